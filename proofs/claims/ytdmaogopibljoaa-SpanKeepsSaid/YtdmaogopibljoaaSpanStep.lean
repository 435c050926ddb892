/-
  span.Open and span.Step: a cursor.
-/
import Derived.Test.YtdmaogopibljoaaSpanLaws
set_option linter.unusedVariables false
set_option linter.unusedSimpArgs false
namespace Go.Proofs.Ytdmaogopibljoaa
open Go Go.XL

structure Cu where
  r : Int
  lo : Int
  hi : Int
  fin : Bool
def Cu.cells (c : Cu) : List Value := [.int .u64 c.r, .int .i64 c.lo, .int .i64 c.hi, .bool c.fin]
def Cu.val (c : Cu) : Value := .agg c.cells.toArray
def cu0 : Cu := ⟨0, 0, 0, false⟩
def stepC (L : List It) (c : Cu) : Cu × It :=
  if (ceilL c.lo L (it0, false)).2 = false ∨ (ceilL c.lo L (it0, false)).1.k > c.hi then ({ c with fin := true }, it0)
  else if (ceilL c.lo L (it0, false)).1.k = c.hi then ({ c with fin := true }, (ceilL c.lo L (it0, false)).1)
  else ({ c with lo := (ceilL c.lo L (it0, false)).1.k + 1 }, (ceilL c.lo L (it0, false)).1)
theorem c_open (A : Ar) (na fa : Option Addr) (nc fc : Nat) (r : Int) (hr : U64 r) (low high : Int) (w : World) (hA : ArR w na fa A) :
    FC Try.prog 14 [arV na fa nc fc A, .int .u64 r, .int .i64 low, .int .i64 high] w (fun v w' => Sub w w' ∧ ∃ c e, v = .tuple #[c.val, .int .i64 e] ∧ (¬ isMap A r → c = cu0 ∧ e = 1) ∧ (isMap A r → c = ⟨r, low, high, false⟩ ∧ e = 0)) := by
  refine FC.intro Try.func14 rfl Try.ntmps14 rfl ?_
  have S := Sub.refl w
  refine RC.seq ?_
  refine RC.region rfl ?_
  refine RL.box rfl rfl rfl (fun b_4 w_4 e_4 z_4 hb_4 s_4 => ?_)
  have ge_4 := S.le e_4
  have S := S.trans s_4
  have hb_4 : Has w_4 b_4 ([.slice na A.nodes.length nc, .slice fa A.free.length fc]) _ := hb_4
  refine RL.alloc ze46 rfl rfl (fun b_8 w_8 e_8 z_8 hb_8 s_8 => ?_)
  have ge_8 := S.le e_8
  have n_4__8 := hb_4.ne e_8
  have S := S.trans s_8
  have hb_4 := hb_4.sub s_8
  refine RL.ev (.assign rfl) rfl rfl ?_
  refine RL.nil (RC.back ?_)
  refine RC.seq ?_
  refine RC.seq ?_
  refine RC.region rfl ?_
  refine RL.ev (.loadR ([.slice na A.nodes.length nc, .slice fa A.free.length fc]) sh28 rfl hb_4.row rfl) rfl rfl ?_
  refine RL.ev (.move rfl) rfl rfl ?_
  refine RL.call rfl ok19 (c_tRight A na fa nc fc r hr w_8 (hA.sub S)) rfl rfl ?_
  rintro _ w1 ⟨rfl, s2⟩
  have S := S.trans s2
  have hb_4 := hb_4.sub s2
  have hb_8 := hb_8.sub s2
  refine RL.ev (.not rfl) rfl rfl ?_
  refine RL.nil (RC.back ?_)
  refine RC.cond rfl (fun h3 => ?_) (fun h3 => ?_)
  ·
    have hno : ¬ isMap A r := (fun h => by have h2 := h3; rw [isMapB_yes h] at h2; cases h2)
    refine RC.seq ?_
    refine RC.region rfl ?_
    refine RL.ev (.buildS ze46 pl46 rfl rfl) rfl rfl ?_
    refine RL.store sh46 rfl rfl rfl hb_8 (by exact Nat.le_of_ble_eq_true rfl) (by rfl) rfl (fun w4 z4 hb_8 a4 => ?_)
    have S := S.upd a4 ge_8
    have hb_4 := hb_4.upd a4 n_4__8
    have hb_8 : Has w4 b_8 (cu0.cells) _ := hb_8.now (by kernel_rfl)
    refine RL.ev (.assign rfl) rfl rfl ?_
    refine RL.nil (RC.back ?_)
    refine RC.done (rs := [.cell 8 46, .tmp 9]) (vs := [_, _]) rfl rfl ⟨⟨_, rfl, .inr ⟨cu0.cells, sh46, hb_8.row, rfl⟩⟩, rfl, trivial⟩ ?_
    -- end 1
    exact ⟨S, cu0, 1, rfl, fun _ => ⟨rfl, rfl⟩, fun h => absurd h hno⟩
  ·
    have hmb : isMapB A r = true := (by simpa using h3)
    have hmap : isMap A r := (isMapB_iff A r).1 (by simpa using h3)
    refine RC.skip (RC.back ?_)
    refine RC.seq ?_
    refine RC.region rfl ?_
    refine RL.ev (.move rfl) rfl rfl ?_
    refine RL.ev (.move rfl) rfl rfl ?_
    refine RL.ev (.move rfl) rfl rfl ?_
    refine RL.ev (.buildS ze46 pl46 rfl rfl) rfl rfl ?_
    refine RL.store sh46 rfl rfl rfl hb_8 (by exact Nat.le_of_ble_eq_true rfl) (by rfl) rfl (fun w5 z5 hb_8 a5 => ?_)
    have S := S.upd a5 ge_8
    have hb_4 := hb_4.upd a5 n_4__8
    have hb_8 : Has w5 b_8 ((⟨r, low, high, false⟩ : Cu).cells) _ := hb_8.now (by kernel_rfl)
    refine RL.ev (.assign rfl) rfl rfl ?_
    refine RL.nil (RC.back ?_)
    refine RC.done (rs := [.cell 8 46, .tmp 9]) (vs := [_, _]) rfl rfl ⟨⟨_, rfl, .inr ⟨(⟨r, low, high, false⟩ : Cu).cells, sh46, hb_8.row, rfl⟩⟩, rfl, trivial⟩ ?_
    -- end 2
    exact ⟨S, ⟨r, low, high, false⟩, 0, rfl, fun h => absurd hmap h, fun _ => ⟨rfl, rfl⟩⟩
theorem ceil_forms {A : Ar} {r lo e : Int} {x : It} (h1 : ¬ isMap A r → x = it0 ∧ e = 1) (h2 : ∀ l, isMap A r → IsT A r l → x = (ceilL lo l (it0, false)).1 ∧ e = foundE (ceilL lo l (it0, false))) :
    (e = 1 → ¬ isMap A r) ∧ (¬ e = 1 → ∃ L, isMap A r ∧ IsT A r L ∧ x = (ceilL lo L (it0, false)).1 ∧ e = foundE (ceilL lo L (it0, false))) := by
  refine ⟨fun he hm => ?_, fun he => ?_⟩
  · obtain ⟨_, L, hL, _⟩ := id hm
    obtain ⟨_, h3⟩ := h2 L hm hL
    rw [he] at h3
    unfold foundE at h3
    split at h3 <;> omega
  · refine Classical.byContradiction fun hn => ?_
    by_cases hm : isMap A r
    · obtain ⟨_, L, hL, _⟩ := id hm
      exact hn ⟨L, hm, hL, h2 L hm hL⟩
    · exact he (h1 hm).2
theorem foundE_0 {s : It × Bool} (h : foundE s = 0) : s.2 = true := by
  unfold foundE at h
  split at h
  · omega
  · rename_i h2; simpa using h2
theorem foundE_n {s : It × Bool} (h : ¬ foundE s = 0) : s.2 = false := by
  unfold foundE at h
  split at h
  · assumption
  · exact absurd rfl h
theorem ceil_lo {lo : Int} {L : List It} (h : (ceilL lo L (it0, false)).2 = true) : lo ≤ (ceilL lo L (it0, false)).1.k := by
  unfold ceilL at *
  split
  · rename_i y hy
    have := List.mem_of_mem_head? hy
    rw [List.mem_filter] at this
    simpa using this.2
  · rename_i hy
    rw [hy] at h; cases h
theorem c_step (A : Ar) (na fa : Option Addr) (nc fc : Nat) (c : Cu) (hr : U64 c.r) (hlo : I64 c.lo) (hhi : I64 c.hi) (w : World) (hA : ArR w na fa A) :
    FC Try.prog 15 [arV na fa nc fc A, c.val] w (fun v w' => Sub w w' ∧ ∃ c2 x e, v = .tuple #[c2.val, x.val, .int .i64 e] ∧ (¬ isMap A c.r → e = 1) ∧ (isMap A c.r → c.fin = true → e = 3) ∧ ∀ L, isMap A c.r → IsT A c.r L → c.fin = false → e = 0 ∧ (c2, x) = stepC L c) := by
  unfold I64 at hhi
  refine FC.intro Try.func15 rfl Try.ntmps15 rfl ?_
  have S := Sub.refl w
  refine RC.seq ?_
  refine RC.region rfl ?_
  refine RL.box rfl rfl rfl (fun b_2 w_2 e_2 z_2 hb_2 s_2 => ?_)
  have ge_2 := S.le e_2
  have S := S.trans s_2
  have hb_2 : Has w_2 b_2 ([.slice na A.nodes.length nc, .slice fa A.free.length fc]) _ := hb_2
  refine RL.box rfl rfl rfl (fun b_3 w_3 e_3 z_3 hb_3 s_3 => ?_)
  have ge_3 := S.le e_3
  have n_2__3 := hb_2.ne e_3
  have S := S.trans s_3
  have hb_2 := hb_2.sub s_3
  have hb_3 : Has w_3 b_3 (c.cells) _ := hb_3
  refine RL.alloc ze46 rfl rfl (fun b_4 w_4 e_4 z_4 hb_4 s_4 => ?_)
  have ge_4 := S.le e_4
  have n_2__4 := hb_2.ne e_4
  have n_3__4 := hb_3.ne e_4
  have S := S.trans s_4
  have hb_2 := hb_2.sub s_4
  have hb_3 := hb_3.sub s_4
  refine RL.alloc ze42 rfl rfl (fun b_5 w_5 e_5 z_5 hb_5 s_5 => ?_)
  have ge_5 := S.le e_5
  have n_2__5 := hb_2.ne e_5
  have n_3__5 := hb_3.ne e_5
  have n_4__5 := hb_4.ne e_5
  have S := S.trans s_5
  have hb_2 := hb_2.sub s_5
  have hb_3 := hb_3.sub s_5
  have hb_4 := hb_4.sub s_5
  refine RL.ev (.assign rfl) rfl rfl ?_
  refine RL.nil (RC.back ?_)
  refine RC.seq ?_
  refine RC.region rfl ?_
  refine RL.ev (.loadR ([.slice na A.nodes.length nc, .slice fa A.free.length fc]) sh28 rfl hb_2.row rfl) rfl rfl ?_
  refine RL.ev (.field0 fo46_0 rfl) rfl rfl ?_
  refine RL.ev (.load1 sh30 rfl (hb_3.cell rfl)) rfl rfl ?_
  refine RL.ev (.field0 fo46_1 rfl) rfl rfl ?_
  refine RL.ev (.load1 sh2 rfl (hb_3.cell rfl)) rfl rfl ?_
  refine RL.call rfl ok21 (c_oCeil A na fa nc fc c.r hr c.lo w_5 (hA.sub S)) rfl rfl ?_
  rintro _ w1 ⟨s2, x, e, rfl, hx1, hx2⟩
  have S := S.trans s2
  have hb_2 := hb_2.sub s2
  have hb_3 := hb_3.sub s2
  have hb_4 := hb_4.sub s2
  have hb_5 := hb_5.sub s2
  have hf := ceil_forms hx1 hx2
  refine RL.ev (.move rfl) rfl rfl ?_
  refine RL.ev (.extract rfl rfl) rfl rfl ?_
  refine RL.ev (.extract rfl rfl) rfl rfl ?_
  refine RL.alloc ze42 rfl rfl (fun b_7 w_7 e_7 z_7 hb_7 s_7 => ?_)
  have ge_7 := S.le e_7
  have n_2__7 := hb_2.ne e_7
  have n_3__7 := hb_3.ne e_7
  have n_4__7 := hb_4.ne e_7
  have n_5__7 := hb_5.ne e_7
  have S := S.trans s_7
  have hb_2 := hb_2.sub s_7
  have hb_3 := hb_3.sub s_7
  have hb_4 := hb_4.sub s_7
  have hb_5 := hb_5.sub s_7
  refine RL.store sh42 rfl rfl rfl hb_7 (by exact Nat.le_of_ble_eq_true rfl) (by rfl) rfl (fun w3 z3 hb_7 a3 => ?_)
  have S := S.upd a3 ge_7
  have hb_2 := hb_2.upd a3 n_2__7
  have hb_3 := hb_3.upd a3 n_3__7
  have hb_4 := hb_4.upd a3 n_4__7
  have hb_5 := hb_5.upd a3 n_5__7
  have hb_7 : Has w3 b_7 (x.cells) _ := hb_7.now (by kernel_rfl)
  refine RL.ev (.assign rfl) rfl rfl ?_
  refine RL.nil (RC.back ?_)
  refine RC.seq ?_
  refine RC.block ?_
  refine RC.seq ?_
  refine RC.region rfl ?_
  refine RL.ev (.move rfl) rfl rfl ?_
  refine RL.ev (.bin rfl rfl rfl) rfl rfl ?_
  refine RL.ev (.assign rfl) rfl rfl ?_
  refine RL.nil (RC.back ?_)
  refine RC.cond_dec rfl (fun h4 => ?_) (fun h4 => ?_)
  ·
    have hno := hf.1 h4
    refine RC.seq ?_
    refine RC.region rfl ?_
    refine RL.ev (.buildS ze46 pl46 rfl rfl) rfl rfl ?_
    refine RL.ev (.buildS ze42 pl42 rfl rfl) rfl rfl ?_
    refine RL.ev (.move rfl) rfl rfl ?_
    refine RL.store sh46 rfl rfl rfl hb_4 (by exact Nat.le_of_ble_eq_true rfl) (by rfl) rfl (fun w5 z5 hb_4 a5 => ?_)
    have S := S.upd a5 ge_4
    have hb_2 := hb_2.upd a5 n_2__4
    have hb_3 := hb_3.upd a5 n_3__4
    have hb_5 := hb_5.upd a5 n_4__5.symm
    have hb_7 := hb_7.upd a5 n_4__7.symm
    have hb_4 : Has w5 b_4 (cu0.cells) _ := hb_4.now (by kernel_rfl)
    refine RL.store sh42 rfl rfl rfl hb_5 (by exact Nat.le_of_ble_eq_true rfl) (by rfl) rfl (fun w6 z6 hb_5 a6 => ?_)
    have S := S.upd a6 ge_5
    have hb_2 := hb_2.upd a6 n_2__5
    have hb_3 := hb_3.upd a6 n_3__5
    have hb_4 := hb_4.upd a6 n_4__5
    have hb_7 := hb_7.upd a6 n_5__7.symm
    have hb_5 : Has w6 b_5 (it0.cells) _ := hb_5.now (by kernel_rfl)
    refine RL.ev (.assign rfl) rfl rfl ?_
    refine RL.nil (RC.back ?_)
    refine RC.done (rs := [.cell 4 46, .cell 5 42, .tmp 6]) (vs := [_, _, _]) rfl rfl ⟨⟨_, rfl, .inr ⟨cu0.cells, sh46, hb_4.row, rfl⟩⟩, ⟨_, rfl, .inr ⟨it0.cells, sh42, hb_5.row, rfl⟩⟩, rfl, trivial⟩ ?_
    -- end 1
    exact ⟨S, cu0, it0, e, rfl, fun h => (hx1 h).2, fun h => absurd h hno, fun L h => absurd h hno⟩
  ·
    obtain ⟨L, hm, hL, hxe, hee⟩ := hf.2 h4
    refine RC.seq ?_
    refine RC.region rfl ?_
    refine RL.ev (.field0 fo46_3 rfl) rfl rfl ?_
    refine RL.ev (.load1 sh4 rfl (hb_3.cell rfl)) rfl rfl ?_
    refine RL.ev (.assign rfl) rfl rfl ?_
    refine RL.nil (RC.back ?_)
    refine RC.cond rfl (fun h7 => ?_) (fun h7 => ?_)
    ·
      have hfin : c.fin = true := h7
      refine RC.seq ?_
      refine RC.region rfl ?_
      refine RL.ev (.buildS ze46 pl46 rfl rfl) rfl rfl ?_
      refine RL.ev (.buildS ze42 pl42 rfl rfl) rfl rfl ?_
      refine RL.store sh46 rfl rfl rfl hb_4 (by exact Nat.le_of_ble_eq_true rfl) (by rfl) rfl (fun w8 z8 hb_4 a8 => ?_)
      have S := S.upd a8 ge_4
      have hb_2 := hb_2.upd a8 n_2__4
      have hb_3 := hb_3.upd a8 n_3__4
      have hb_5 := hb_5.upd a8 n_4__5.symm
      have hb_7 := hb_7.upd a8 n_4__7.symm
      have hb_4 : Has w8 b_4 (cu0.cells) _ := hb_4.now (by kernel_rfl)
      refine RL.store sh42 rfl rfl rfl hb_5 (by exact Nat.le_of_ble_eq_true rfl) (by rfl) rfl (fun w9 z9 hb_5 a9 => ?_)
      have S := S.upd a9 ge_5
      have hb_2 := hb_2.upd a9 n_2__5
      have hb_3 := hb_3.upd a9 n_3__5
      have hb_4 := hb_4.upd a9 n_4__5
      have hb_7 := hb_7.upd a9 n_5__7.symm
      have hb_5 : Has w9 b_5 (it0.cells) _ := hb_5.now (by kernel_rfl)
      refine RL.ev (.assign rfl) rfl rfl ?_
      refine RL.nil (RC.back ?_)
      refine RC.done (rs := [.cell 4 46, .cell 5 42, .tmp 6]) (vs := [_, _, _]) rfl rfl ⟨⟨_, rfl, .inr ⟨cu0.cells, sh46, hb_4.row, rfl⟩⟩, ⟨_, rfl, .inr ⟨it0.cells, sh42, hb_5.row, rfl⟩⟩, rfl, trivial⟩ ?_
      -- end 2
      exact ⟨S, cu0, it0, 3, rfl, fun h => absurd hm h, fun _ _ => rfl, fun L' _ _ h => by rw [hfin] at h; cases h⟩
    ·
      have hfin : c.fin = false := h7
      refine RC.seq ?_
      refine RC.region rfl ?_
      refine RL.ev (.move rfl) rfl rfl ?_
      refine RL.ev (.bin rfl rfl rfl) rfl rfl ?_
      refine RL.ev (.move rfl) rfl rfl ?_
      refine RL.split 36 rfl (fun h10 => ?_) (fun h10 => ?_)
      ·
        have he0 : ¬ e = 0 := h10
        refine RL.off rfl rfl ?_
        refine RL.off rfl rfl ?_
        refine RL.off rfl rfl ?_
        refine RL.off rfl rfl ?_
        refine RL.off rfl rfl ?_
        refine RL.ev (.pick_t rfl rfl) rfl rfl ?_
        refine RL.ev (.assign rfl) rfl rfl ?_
        refine RL.nil (RC.back ?_)
        refine RC.cond_t rfl ?_
        refine RC.seq ?_
        refine RC.region rfl ?_
        refine RL.ev (.field0 fo46_3 rfl) rfl rfl ?_
        refine RL.store sh4 rfl rfl rfl hb_3 (by exact Nat.le_of_ble_eq_true rfl) (by rfl) rfl (fun w11 z11 hb_3 a11 => ?_)
        have S := S.upd a11 ge_3
        have hb_2 := hb_2.upd a11 n_2__3
        have hb_4 := hb_4.upd a11 n_3__4.symm
        have hb_5 := hb_5.upd a11 n_3__5.symm
        have hb_7 := hb_7.upd a11 n_3__7.symm
        have hb_3 : Has w11 b_3 (({ c with fin := true } : Cu).cells) _ := hb_3
        refine RL.nil (RC.back ?_)
        refine RC.seq ?_
        refine RC.region rfl ?_
        refine RL.ev (.loadR (({ c with fin := true } : Cu).cells) sh46 rfl hb_3.row rfl) rfl rfl ?_
        refine RL.ev (.buildS ze42 pl42 rfl rfl) rfl rfl ?_
        refine RL.store sh46 rfl rfl rfl hb_4 (by exact Nat.le_of_ble_eq_true rfl) (by rfl) rfl (fun w12 z12 hb_4 a12 => ?_)
        have S := S.upd a12 ge_4
        have hb_2 := hb_2.upd a12 n_2__4
        have hb_3 := hb_3.upd a12 n_3__4
        have hb_5 := hb_5.upd a12 n_4__5.symm
        have hb_7 := hb_7.upd a12 n_4__7.symm
        have hb_4 : Has w12 b_4 (({ c with fin := true } : Cu).cells) _ := hb_4.now (by kernel_rfl)
        refine RL.store sh42 rfl rfl rfl hb_5 (by exact Nat.le_of_ble_eq_true rfl) (by rfl) rfl (fun w13 z13 hb_5 a13 => ?_)
        have S := S.upd a13 ge_5
        have hb_2 := hb_2.upd a13 n_2__5
        have hb_3 := hb_3.upd a13 n_3__5
        have hb_4 := hb_4.upd a13 n_4__5
        have hb_7 := hb_7.upd a13 n_5__7.symm
        have hb_5 : Has w13 b_5 (it0.cells) _ := hb_5.now (by kernel_rfl)
        refine RL.ev (.assign rfl) rfl rfl ?_
        refine RL.nil (RC.back ?_)
        refine RC.done (rs := [.cell 4 46, .cell 5 42, .tmp 6]) (vs := [_, _, _]) rfl rfl ⟨⟨_, rfl, .inr ⟨({ c with fin := true } : Cu).cells, sh46, hb_4.row, rfl⟩⟩, ⟨_, rfl, .inr ⟨it0.cells, sh42, hb_5.row, rfl⟩⟩, rfl, trivial⟩ ?_
        -- end 3
        exact ⟨S, { c with fin := true }, it0, 0, rfl, fun h => absurd hm h, fun _ h => (by rw [hfin] at h; cases h), fun L' _ hL' _ => ⟨rfl, by rw [hL'.unique hL, stepC, if_pos (.inl (foundE_n (hee ▸ he0)))]⟩⟩
      ·
        have he0 : e = 0 := Decidable.not_not.1 h10
        have hfo := foundE_0 (hee ▸ he0)
        have hlx := ceil_lo hfo
        rw [← hxe] at hlx
        unfold I64 at hlo
        refine RL.ev (.field0 fo42_0 rfl) rfl rfl ?_
        refine RL.ev (.load1 sh2 rfl (hb_7.cell rfl)) rfl rfl ?_
        refine RL.ev (.field0 fo46_2 rfl) rfl rfl ?_
        refine RL.ev (.load1 sh2 rfl (hb_3.cell rfl)) rfl rfl ?_
        refine RL.ev (.bin rfl rfl rfl) rfl rfl ?_
        refine RL.ev (.pick_f rfl rfl) rfl rfl ?_
        refine RL.ev (.assign rfl) rfl rfl ?_
        refine RL.nil (RC.back ?_)
        refine RC.cond_dec rfl (fun h14 => ?_) (fun h14 => ?_)
        ·
          have hgt : x.k > c.hi := h14
          refine RC.seq ?_
          refine RC.region rfl ?_
          refine RL.ev (.field0 fo46_3 rfl) rfl rfl ?_
          refine RL.store sh4 rfl rfl rfl hb_3 (by exact Nat.le_of_ble_eq_true rfl) (by rfl) rfl (fun w15 z15 hb_3 a15 => ?_)
          have S := S.upd a15 ge_3
          have hb_2 := hb_2.upd a15 n_2__3
          have hb_4 := hb_4.upd a15 n_3__4.symm
          have hb_5 := hb_5.upd a15 n_3__5.symm
          have hb_7 := hb_7.upd a15 n_3__7.symm
          have hb_3 : Has w15 b_3 (({ c with fin := true } : Cu).cells) _ := hb_3
          refine RL.nil (RC.back ?_)
          refine RC.seq ?_
          refine RC.region rfl ?_
          refine RL.ev (.loadR (({ c with fin := true } : Cu).cells) sh46 rfl hb_3.row rfl) rfl rfl ?_
          refine RL.ev (.buildS ze42 pl42 rfl rfl) rfl rfl ?_
          refine RL.store sh46 rfl rfl rfl hb_4 (by exact Nat.le_of_ble_eq_true rfl) (by rfl) rfl (fun w16 z16 hb_4 a16 => ?_)
          have S := S.upd a16 ge_4
          have hb_2 := hb_2.upd a16 n_2__4
          have hb_3 := hb_3.upd a16 n_3__4
          have hb_5 := hb_5.upd a16 n_4__5.symm
          have hb_7 := hb_7.upd a16 n_4__7.symm
          have hb_4 : Has w16 b_4 (({ c with fin := true } : Cu).cells) _ := hb_4.now (by kernel_rfl)
          refine RL.store sh42 rfl rfl rfl hb_5 (by exact Nat.le_of_ble_eq_true rfl) (by rfl) rfl (fun w17 z17 hb_5 a17 => ?_)
          have S := S.upd a17 ge_5
          have hb_2 := hb_2.upd a17 n_2__5
          have hb_3 := hb_3.upd a17 n_3__5
          have hb_4 := hb_4.upd a17 n_4__5
          have hb_7 := hb_7.upd a17 n_5__7.symm
          have hb_5 : Has w17 b_5 (it0.cells) _ := hb_5.now (by kernel_rfl)
          refine RL.ev (.assign rfl) rfl rfl ?_
          refine RL.nil (RC.back ?_)
          refine RC.done (rs := [.cell 4 46, .cell 5 42, .tmp 6]) (vs := [_, _, _]) rfl rfl ⟨⟨_, rfl, .inr ⟨({ c with fin := true } : Cu).cells, sh46, hb_4.row, rfl⟩⟩, ⟨_, rfl, .inr ⟨it0.cells, sh42, hb_5.row, rfl⟩⟩, rfl, trivial⟩ ?_
          -- end 4
          exact ⟨S, { c with fin := true }, it0, 0, rfl, fun h => absurd hm h, fun _ h => (by rw [hfin] at h; cases h), fun L' _ hL' _ => ⟨rfl, by rw [hL'.unique hL, stepC, ← hxe, if_pos (.inr hgt)]⟩⟩
        ·
          have hgt : ¬ x.k > c.hi := h14
          refine RC.seq ?_
          refine RC.region rfl ?_
          refine RL.ev (.field0 fo42_0 rfl) rfl rfl ?_
          refine RL.ev (.load1 sh2 rfl (hb_7.cell rfl)) rfl rfl ?_
          refine RL.ev (.field0 fo46_2 rfl) rfl rfl ?_
          refine RL.ev (.load1 sh2 rfl (hb_3.cell rfl)) rfl rfl ?_
          refine RL.ev (.bin rfl rfl rfl) rfl rfl ?_
          refine RL.ev (.assign rfl) rfl rfl ?_
          refine RL.nil (RC.back ?_)
          refine RC.cond_dec rfl (fun h18 => ?_) (fun h18 => ?_)
          ·
            have heq : x.k = c.hi := h18
            refine RC.region rfl ?_
            refine RL.ev (.field0 fo46_3 rfl) rfl rfl ?_
            refine RL.store sh4 rfl rfl rfl hb_3 (by exact Nat.le_of_ble_eq_true rfl) (by rfl) rfl (fun w19 z19 hb_3 a19 => ?_)
            have S := S.upd a19 ge_3
            have hb_2 := hb_2.upd a19 n_2__3
            have hb_4 := hb_4.upd a19 n_3__4.symm
            have hb_5 := hb_5.upd a19 n_3__5.symm
            have hb_7 := hb_7.upd a19 n_3__7.symm
            have hb_3 : Has w19 b_3 (({ c with fin := true } : Cu).cells) _ := hb_3
            refine RL.nil (RC.back ?_)
            refine RC.seq ?_
            refine RC.drawD (fun k => k = b_4 ∨ k = b_5) [2, 3] w19.heap.size 5 rfl rfl mxo (fun w20 s21 => ?_)
            have hNN : ∀ k, ((k = b_4 ∨ k = b_5) ∨ w19.heap.size ≤ k) → w.heap.size ≤ k := fun k e => e.elim (fun e => e.elim (fun e => e ▸ ge_4) (fun e => e ▸ ge_5)) (fun e => Nat.le_trans S.size e)
            have ent_S := S.size
            have hN0 : ∀ k, w19.heap.size ≤ k → w.heap.size ≤ k := fun k e => Nat.le_trans S.size e
            have ltD_b_2 := hb_2.lt
            have ltD_b_3 := hb_3.lt
            have ltD_b_4 := hb_4.lt
            have ltD_b_5 := hb_5.lt
            have ltD_b_7 := hb_7.lt
            have szD := Nat.le_refl w19.heap.size
            have S := S.trans s21
            have hb_2 := hb_2.sub s21
            have hb_3 := hb_3.sub s21
            have hb_4 := hb_4.sub s21
            have hb_5 := hb_5.sub s21
            have hb_7 := hb_7.sub s21
            have szD := Nat.le_trans szD s21.size
            refine RD.take 0 rfl (by kernel_rfl) (by kernel_rfl) (by kernel_rfl) (fun w' s' => .loadR (({ c with fin := true } : Cu).cells) sh46 rfl (hb_3.step s' (fun e => e.elim (fun e => e.elim (fun e => n_3__4 e) (fun e => n_3__5 e)) (fun e => Nat.not_le.2 ltD_b_3 e))).row rfl) rfl rfl ?_
            refine RD.take 1 rfl (by kernel_rfl) (by kernel_rfl) (by kernel_rfl) (fun w' s' => .loadR (x.cells) sh42 rfl (hb_7.step s' (fun e => e.elim (fun e => e.elim (fun e => n_4__7.symm e) (fun e => n_5__7.symm e)) (fun e => Nat.not_le.2 ltD_b_7 e))).row rfl) rfl rfl ?_
            refine RD.all [2] (by kernel_rfl) rfl (RDs.cons rfl ?_ (RDs.nil))
            refine RL.store sh46 rfl rfl rfl hb_4 (by exact Nat.le_of_ble_eq_true rfl) (by rfl) rfl (fun w22 z22 hb_4 a22 => ?_)
            have S := S.upd a22 ge_4
            have hb_2 := hb_2.upd a22 n_2__4
            have hb_3 := hb_3.upd a22 n_3__4
            have hb_5 := hb_5.upd a22 n_4__5.symm
            have hb_7 := hb_7.upd a22 n_4__7.symm
            have szD := Nat.le_trans szD a22.size
            have hb_4 : Has w22 b_4 (({ c with fin := true } : Cu).cells) _ := hb_4.now (by kernel_rfl)
            refine RD.backW rfl (a22.mono fun k _ e => e ▸ (.inl (.inl rfl))) ?_
            refine RD.all [3] (by kernel_rfl) rfl (RDs.cons rfl ?_ (RDs.nil))
            refine RL.store sh42 rfl rfl rfl hb_5 (by exact Nat.le_of_ble_eq_true rfl) (by rfl) rfl (fun w23 z23 hb_5 a23 => ?_)
            have S := S.upd a23 ge_5
            have hb_2 := hb_2.upd a23 n_2__5
            have hb_3 := hb_3.upd a23 n_3__5
            have hb_4 := hb_4.upd a23 n_4__5
            have hb_7 := hb_7.upd a23 n_5__7.symm
            have szD := Nat.le_trans szD a23.size
            have hb_5 : Has w23 b_5 (x.cells) _ := hb_5.now (by kernel_rfl)
            refine RD.backW rfl (a23.mono fun k _ e => e ▸ (.inl (.inr (rfl)))) ?_
            refine RD.take 4 rfl (by kernel_rfl) (by kernel_rfl) (by kernel_rfl) (fun w' s' => .assign rfl) rfl rfl ?_
            refine RD.done (by kernel_rfl) (RC.back ?_)
            refine RC.done (rs := [.cell 4 46, .cell 5 42, .tmp 6]) (vs := [_, _, _]) rfl rfl ⟨⟨_, rfl, .inr ⟨({ c with fin := true } : Cu).cells, sh46, hb_4.row, rfl⟩⟩, ⟨_, rfl, .inr ⟨x.cells, sh42, hb_5.row, rfl⟩⟩, rfl, trivial⟩ ?_
            -- end 5
            exact ⟨S, { c with fin := true }, x, 0, rfl, fun h => absurd hm h, fun _ h => (by rw [hfin] at h; cases h), fun L' _ hL' _ => ⟨rfl, by rw [hL'.unique hL, stepC, ← hxe, if_neg (fun h => h.elim (fun h => by rw [hfo] at h; cases h) hgt), if_pos heq]⟩⟩
          ·
            have heq : ¬ x.k = c.hi := h18
            refine RC.region rfl ?_
            refine RL.ev (.field0 fo42_0 rfl) rfl rfl ?_
            refine RL.ev (.load1 sh2 rfl (hb_7.cell rfl)) rfl rfl ?_
            refine RL.ev (.as (.bin rfl rfl rfl) (wi64 (y := x.k + 1) (by rfl) (by omega))) rfl rfl ?_
            refine RL.ev (.field0 fo46_1 rfl) rfl rfl ?_
            refine RL.store sh2 rfl rfl rfl hb_3 (by exact Nat.le_of_ble_eq_true rfl) (by rfl) rfl (fun w24 z24 hb_3 a24 => ?_)
            have S := S.upd a24 ge_3
            have hb_2 := hb_2.upd a24 n_2__3
            have hb_4 := hb_4.upd a24 n_3__4.symm
            have hb_5 := hb_5.upd a24 n_3__5.symm
            have hb_7 := hb_7.upd a24 n_3__7.symm
            have hb_3 : Has w24 b_3 (({ c with lo := x.k + 1 } : Cu).cells) _ := hb_3
            refine RL.nil (RC.back ?_)
            refine RC.seq ?_
            refine RC.drawD (fun k => k = b_4 ∨ k = b_5) [2, 3] w24.heap.size 5 rfl rfl mxo (fun w25 s26 => ?_)
            have hNN : ∀ k, ((k = b_4 ∨ k = b_5) ∨ w24.heap.size ≤ k) → w.heap.size ≤ k := fun k e => e.elim (fun e => e.elim (fun e => e ▸ ge_4) (fun e => e ▸ ge_5)) (fun e => Nat.le_trans S.size e)
            have ent_S := S.size
            have hN0 : ∀ k, w24.heap.size ≤ k → w.heap.size ≤ k := fun k e => Nat.le_trans S.size e
            have ltD_b_2 := hb_2.lt
            have ltD_b_3 := hb_3.lt
            have ltD_b_4 := hb_4.lt
            have ltD_b_5 := hb_5.lt
            have ltD_b_7 := hb_7.lt
            have szD := Nat.le_refl w24.heap.size
            have S := S.trans s26
            have hb_2 := hb_2.sub s26
            have hb_3 := hb_3.sub s26
            have hb_4 := hb_4.sub s26
            have hb_5 := hb_5.sub s26
            have hb_7 := hb_7.sub s26
            have szD := Nat.le_trans szD s26.size
            refine RD.take 0 rfl (by kernel_rfl) (by kernel_rfl) (by kernel_rfl) (fun w' s' => .loadR (({ c with lo := x.k + 1 } : Cu).cells) sh46 rfl (hb_3.step s' (fun e => e.elim (fun e => e.elim (fun e => n_3__4 e) (fun e => n_3__5 e)) (fun e => Nat.not_le.2 ltD_b_3 e))).row rfl) rfl rfl ?_
            refine RD.take 1 rfl (by kernel_rfl) (by kernel_rfl) (by kernel_rfl) (fun w' s' => .loadR (x.cells) sh42 rfl (hb_7.step s' (fun e => e.elim (fun e => e.elim (fun e => n_4__7.symm e) (fun e => n_5__7.symm e)) (fun e => Nat.not_le.2 ltD_b_7 e))).row rfl) rfl rfl ?_
            refine RD.all [2] (by kernel_rfl) rfl (RDs.cons rfl ?_ (RDs.nil))
            refine RL.store sh46 rfl rfl rfl hb_4 (by exact Nat.le_of_ble_eq_true rfl) (by rfl) rfl (fun w27 z27 hb_4 a27 => ?_)
            have S := S.upd a27 ge_4
            have hb_2 := hb_2.upd a27 n_2__4
            have hb_3 := hb_3.upd a27 n_3__4
            have hb_5 := hb_5.upd a27 n_4__5.symm
            have hb_7 := hb_7.upd a27 n_4__7.symm
            have szD := Nat.le_trans szD a27.size
            have hb_4 : Has w27 b_4 (({ c with lo := x.k + 1 } : Cu).cells) _ := hb_4.now (by kernel_rfl)
            refine RD.backW rfl (a27.mono fun k _ e => e ▸ (.inl (.inl rfl))) ?_
            refine RD.all [3] (by kernel_rfl) rfl (RDs.cons rfl ?_ (RDs.nil))
            refine RL.store sh42 rfl rfl rfl hb_5 (by exact Nat.le_of_ble_eq_true rfl) (by rfl) rfl (fun w28 z28 hb_5 a28 => ?_)
            have S := S.upd a28 ge_5
            have hb_2 := hb_2.upd a28 n_2__5
            have hb_3 := hb_3.upd a28 n_3__5
            have hb_4 := hb_4.upd a28 n_4__5
            have hb_7 := hb_7.upd a28 n_5__7.symm
            have szD := Nat.le_trans szD a28.size
            have hb_5 : Has w28 b_5 (x.cells) _ := hb_5.now (by kernel_rfl)
            refine RD.backW rfl (a28.mono fun k _ e => e ▸ (.inl (.inr (rfl)))) ?_
            refine RD.take 4 rfl (by kernel_rfl) (by kernel_rfl) (by kernel_rfl) (fun w' s' => .assign rfl) rfl rfl ?_
            refine RD.done (by kernel_rfl) (RC.back ?_)
            refine RC.done (rs := [.cell 4 46, .cell 5 42, .tmp 6]) (vs := [_, _, _]) rfl rfl ⟨⟨_, rfl, .inr ⟨({ c with lo := x.k + 1 } : Cu).cells, sh46, hb_4.row, rfl⟩⟩, ⟨_, rfl, .inr ⟨x.cells, sh42, hb_5.row, rfl⟩⟩, rfl, trivial⟩ ?_
            -- end 6
            exact ⟨S, { c with lo := x.k + 1 }, x, 0, rfl, fun h => absurd hm h, fun _ h => (by rw [hfin] at h; cases h), fun L' _ hL' _ => ⟨rfl, by rw [hL'.unique hL, stepC, ← hxe, if_neg (fun h => h.elim (fun h => by rw [hfo] at h; cases h) hgt), if_neg heq]⟩⟩
end Go.Proofs.Ytdmaogopibljoaa
