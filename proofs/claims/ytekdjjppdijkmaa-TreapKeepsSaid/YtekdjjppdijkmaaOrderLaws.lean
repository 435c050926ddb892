/-
  What the statements about places share.
-/
import Derived.Test.YtekdjjppdijkmaaOrderLawP
set_option linter.unusedVariables false
set_option linter.unusedSimpArgs false
namespace Go.Proofs.Ytekdjjppdijkmaa
open Go Go.XL

section
variable {H : Type} {enc : TypeId × Value → H} {W : World} {base : Nat} {sp : Nat → Bool} {held : Bool} {v : Value} {d : DataW H} {ps : List MemPlace} {r : Reach} {b : Nat}
set_option maxRecDepth 100000 in
theorem open_i64s (hok : Value.okWide Try.prog W r b 22 v) (h : DataW.Trod enc Try.prog W base sp held 22 v d ps) : ∃ (a : Option Addr) (l : List Int) (c : Nat), v = .slice a l.length c ∧ l.length ≤ c ∧ c ≤ maxLen ∧ Sl W a 1 (l.map fun x => [i6 x]) ∧ ∀ x ∈ l, I64 x :=
  open_sl (fun x => [i6 x]) I64 sl22 rfl rfl fit_int hok h
end
theorem c_refAt6 (l : List It) (a : Option Addr) (c m : Nat) (hm : m = l.length) (key : Int) (w : World) (hl : Sl w a 2 (l.map It.cells)) (hb : l.length ≤ 1000000) :
    FC Try.prog 17 [.slice a m c, .int .i64 key] w (fun v w' => Sub w w' ∧ ∃ n, v = .int .i64 n ∧ (n < 0 ∧ hasK l key = false ∨ 0 ≤ n ∧ hasK l key = true ∧ ∃ y, l[n.toNat]? = some y ∧ y.k = key)) := by
  subst hm
  refine FC.intro Try.func17 rfl Try.ntmps17 rfl ?_
  have S := Sub.refl w
  refine RC.seq ?_
  refine RC.region rfl ?_
  refine RL.ev (.assign rfl) rfl rfl ?_
  refine RL.nil (RC.back ?_)
  refine RC.seq ?_
  refine RC.seq ?_
  refine RC.region rfl ?_
  refine RL.ev (.move rfl) rfl rfl ?_
  refine RL.ev (.len sl23 rfl) rfl rfl ?_
  refine RL.ev (.move rfl) rfl rfl ?_
  refine RL.nil (RC.back ?_)
  refine RC.block ?_
  refine RC.loop (α := Nat) (fun i => [(1, .int .i64 key), (7, .slice a l.length c), (8, .int .i64 (l.length : Int)), (9, .int .i64 (i : Int))]) (fun i w1 => (i ≤ l.length ∧ ∀ y ∈ l.take i, ¬ y.k = key) ∧ Sub w w1) (fun i => l.length - i) 0 (keep_of (by repeat (first | exact trivial | refine And.intro rfl ?_))) (⟨⟨Nat.zero_le _, by simp⟩, S⟩) (fun i w1 hJ => ?_)
  obtain ⟨⟨hi, hp⟩, S⟩ := hJ
  refine RC.seq ?_
  refine RC.region rfl ?_
  refine RL.ev (.bin rfl rfl rfl) rfl rfl ?_
  refine RL.nil (RC.back ?_)
  refine RC.seq ?_
  refine RC.cond_dec rfl (fun h2 => ?_) (fun h2 => ?_)
  ·
    obtain ⟨x, hx⟩ := getSome (l := l) (i := i) (by omega)
    refine RC.skip (RC.back ?_)
    refine RC.seq ?_
    refine RC.block ?_
    refine RC.seq ?_
    refine RC.region rfl ?_
    refine RL.ev (.move rfl) rfl rfl ?_
    refine RL.ev (.indexS sl23 rfl rfl (by omega) (hl.is (i := 0) (by simp only [List.length_map]; omega))) rfl rfl ?_
    refine RL.ev (.loadR (x.cells) sh42 rfl ((hl.sub S).rowAt (enc := It.cells) (i := i) hx) rfl) rfl rfl ?_
    refine RL.alloc ze42 rfl rfl (fun b_6 w_6 e_6 z_6 hb_6 s_6 => ?_)
    have ge_6 := S.le e_6
    have S := S.trans s_6
    refine RL.ev (.assign rfl) rfl rfl ?_
    refine RL.store sh42 rfl rfl rfl hb_6 (by exact Nat.le_of_ble_eq_true rfl) (by rfl) rfl (fun w3 z3 hb_6 a3 => ?_)
    have S := S.upd a3 ge_6
    have hb_6 : Has w3 b_6 (x.cells) _ := hb_6.now (by kernel_rfl)
    refine RL.nil (RC.back ?_)
    refine RC.seq ?_
    refine RC.region rfl ?_
    refine RL.ev (.field0 fo42_0 rfl) rfl rfl ?_
    refine RL.ev (.load1 sh2 rfl (hb_6.cell rfl)) rfl rfl ?_
    refine RL.ev (.move rfl) rfl rfl ?_
    refine RL.ev (.bin rfl rfl rfl) rfl rfl ?_
    refine RL.nil (RC.back ?_)
    refine RC.cond_dec rfl (fun h4 => ?_) (fun h4 => ?_)
    ·
      have hk := h4
      refine RC.seq ?_
      refine RC.region rfl ?_
      refine RL.ev (.move rfl) rfl rfl ?_
      refine RL.ev (.assign rfl) rfl rfl ?_
      refine RL.nil (RC.back ?_)
      refine RC.done (rs := [.tmp 4]) (vs := [_]) rfl rfl ⟨rfl, trivial⟩ ?_
      -- end 1
      exact ⟨S, _, rfl, .inr ⟨by omega, hasK_iff.2 ⟨x, List.mem_of_getElem? hx, hk⟩, x, hx, hk⟩⟩
    ·
      have hk := h4
      refine RC.skip (RC.back ?_)
      refine RC.region rfl ?_
      refine RL.ev (.as (.bin rfl rfl rfl) (wi64 (y := ((i + 1 : Nat) : Int)) (by omega) (by omega))) rfl rfl ?_
      refine RL.ev (.move rfl) rfl rfl ?_
      exact RL.nil (fun a ka => ⟨i + 1, ⟨⟨by omega, fun y hy => by rw [List.take_add_one, hx] at hy; rcases List.mem_append.1 hy with hy | hy; exact hp y hy; (have e : y = x := (by simpa using hy)); rw [e]; exact hk⟩, S⟩, by omega, ka.keep (keep_of (by repeat (first | exact trivial | refine And.intro rfl ?_)))⟩)
  ·
    obtain rfl : i = l.length := (by omega)
    rw [List.take_length] at hp
    refine RC.exit rfl (RC.back ?_)
    refine RC.seq ?_
    refine RC.region rfl ?_
    refine RL.ev (.assign rfl) rfl rfl ?_
    refine RL.nil (RC.back ?_)
    refine RC.done (rs := [.tmp 4]) (vs := [_]) rfl rfl ⟨rfl, trivial⟩ ?_
    -- end 2
    exact ⟨S, _, rfl, .inl ⟨by decide, hasK_no hp⟩⟩
def row3 : List It := [⟨1, 0⟩, ⟨5, 2⟩, ⟨9, 0⟩]
theorem row3_srt : Srt row3 := by unfold Srt row3; decide
theorem row3_ok : ∀ z ∈ row3, z.ok := by
  intro z hz
  simp only [row3, List.mem_cons, List.not_mem_nil, or_false] at hz
  rcases hz with rfl | rfl | rfl <;> exact ⟨by unfold I64; decide, by unfold I64; decide⟩
theorem c_alive7 (w : World) : FC Try.prog 18 [] w (Val (.bool true) w) := by
  have hB := build_ok (size := 9) row3_srt (by decide) (by decide) (by decide)
  have hM := build_map (size := 9) row3_srt (by decide) (by decide) (by decide) (by decide)
  refine FC.intro Try.func18 rfl Try.ntmps18 rfl ?_
  have S := Sub.refl w
  refine RC.seq ?_
  refine RC.region rfl ?_
  refine RL.ev (.assign rfl) rfl rfl ?_
  refine RL.nil (RC.back ?_)
  refine RC.seq ?_
  refine RC.region rfl ?_
  refine RL.ev (.buildS ze42 pl42 rfl rfl) rfl rfl ?_
  refine RL.ev (.buildS ze42 pl42 rfl rfl) rfl rfl ?_
  refine RL.ev (.buildS ze42 pl42 rfl rfl) rfl rfl ?_
  refine RL.buildSliceN (vs := [_, _, _]) sl23 _ ze42 rfl ⟨rfl, rfl, rfl, trivial⟩ rfl rfl rfl rfl rfl rfl (fun b_11 w_11 e_11 z_11 hb_11 s_11 => ?_)
  have ge_11 := S.le e_11
  have S := S.trans s_11
  refine RL.call rfl ok14 (c_build 9 row3 (some ⟨b_11, 0, none⟩) 3 3 rfl (by decide) row3_srt row3_ok (by decide) (by decide) (by decide) w_11 (Has.sl0 (rows := row3.map It.cells) hb_11 it_rows)) rfl rfl ?_
  rintro _ w1 ⟨na, fa, nc, fc, rfl, hn, hf, hi, s2⟩
  have hA := (hi (fun _ => False) (fun _ h => h.elim)).now
  have S := S.trans s2
  have hb_11 := hb_11.sub s2
  obtain ⟨W1, S1, hA⟩ : ∃ W1, Sub W1 w1 ∧ ArR W1 na fa (buildA 9 row3) := ⟨_, Sub.refl _, hA⟩
  refine RL.ev (.move rfl) rfl rfl ?_
  refine RL.ev (.extract rfl rfl) rfl rfl ?_
  refine RL.ev (.extract rfl rfl) rfl rfl ?_
  refine RL.alloc ze28 rfl rfl (fun b_1 w_1 e_1 z_1 hb_1 s_1 => ?_)
  have ge_1 := S.le e_1
  have n_11__1 := hb_11.ne e_1
  have S := S.trans s_1
  have hb_11 := hb_11.sub s_1
  have geS1_1 := S1.le e_1
  have S1 := S1.trans s_1
  refine RL.store sh28 rfl rfl rfl hb_1 (by exact Nat.le_of_ble_eq_true rfl) (by rfl) rfl (fun w3 z3 hb_1 a3 => ?_)
  have S := S.upd a3 ge_1
  have hb_11 := hb_11.upd a3 n_11__1
  have S1 := S1.upd a3 geS1_1
  have hb_1 : Has w3 b_1 ([.slice na (buildA 9 row3).nodes.length nc, .slice fa (buildA 9 row3).free.length fc]) _ := hb_1.now (by kernel_rfl)
  refine RL.ev (.assign rfl) rfl rfl ?_
  refine RL.nil (RC.back ?_)
  refine RC.seq ?_
  refine RC.region rfl ?_
  refine RL.ev (.loadR ([.slice na (buildA 9 row3).nodes.length nc, .slice fa (buildA 9 row3).free.length fc]) sh28 rfl hb_1.row rfl) rfl rfl ?_
  refine RL.ev (.move rfl) rfl rfl ?_
  refine RL.call rfl ok20 (c_oAt (buildA 9 row3) na fa nc fc (buildR 9 row3) hB.u 1 (by unfold I64; decide) w3 (hA.sub S1)) rfl rfl ?_
  rintro _ w4 ⟨s5, x, e, rfl, _, hx⟩
  have S := S.trans s5
  have hb_11 := hb_11.sub s5
  have S1 := S1.trans s5
  have hb_1 := hb_1.sub s5
  have hx := (hx row3 hM hB.isT).1 (by decide)
  obtain ⟨hx1, rfl⟩ := hx
  have hx2 : x = ⟨5, 2⟩ := (Option.some.inj hx1).symm
  subst hx2
  refine RL.ev (.move rfl) rfl rfl ?_
  refine RL.ev (.extract rfl rfl) rfl rfl ?_
  refine RL.ev (.extract rfl rfl) rfl rfl ?_
  refine RL.alloc ze42 rfl rfl (fun b_3 w_3 e_3 z_3 hb_3 s_3 => ?_)
  have ge_3 := S.le e_3
  have n_11__3 := hb_11.ne e_3
  have n_1__3 := hb_1.ne e_3
  have S := S.trans s_3
  have hb_11 := hb_11.sub s_3
  have geS1_3 := S1.le e_3
  have S1 := S1.trans s_3
  have hb_1 := hb_1.sub s_3
  refine RL.store sh42 rfl rfl rfl hb_3 (by exact Nat.le_of_ble_eq_true rfl) (by rfl) rfl (fun w6 z6 hb_3 a6 => ?_)
  have S := S.upd a6 ge_3
  have hb_11 := hb_11.upd a6 n_11__3
  have S1 := S1.upd a6 geS1_3
  have hb_1 := hb_1.upd a6 n_1__3
  have hb_3 : Has w6 b_3 ((⟨5, 2⟩ : It).cells) _ := hb_3.now (by kernel_rfl)
  refine RL.ev (.assign rfl) rfl rfl ?_
  refine RL.nil (RC.back ?_)
  refine RC.seq ?_
  refine RC.region rfl ?_
  refine RL.ev (.loadR ([.slice na (buildA 9 row3).nodes.length nc, .slice fa (buildA 9 row3).free.length fc]) sh28 rfl hb_1.row rfl) rfl rfl ?_
  refine RL.ev (.move rfl) rfl rfl ?_
  refine RL.call rfl ok16 (c_oSize (buildA 9 row3) na fa nc fc (buildR 9 row3) hB.u w6 (hA.sub S1)) rfl rfl ?_
  rintro _ w7 ⟨s8, n, e2, rfl, _, hn2⟩
  have S := S.trans s8
  have hb_11 := hb_11.sub s8
  have S1 := S1.trans s8
  have hb_1 := hb_1.sub s8
  have hb_3 := hb_3.sub s8
  obtain ⟨rfl, rfl⟩ := hn2 row3 hM hB.isT
  refine RL.ev (.move rfl) rfl rfl ?_
  refine RL.ev (.extract rfl rfl) rfl rfl ?_
  refine RL.ev (.extract rfl rfl) rfl rfl ?_
  refine RL.ev (.assign rfl) rfl rfl ?_
  refine RL.ev (.assign rfl) rfl rfl ?_
  refine RL.nil (RC.back ?_)
  refine RC.seq ?_
  refine RC.region rfl ?_
  refine RL.ev (.move rfl) rfl rfl ?_
  refine RL.ev (.as (v' := .bool true) (.bin rfl rfl rfl) (congrArg Value.bool (decide_eq_true (rfl)))) rfl rfl ?_
  refine RL.ev (.move rfl) rfl rfl ?_
  refine RL.ev (.move rfl) rfl rfl ?_
  refine RL.ev (.as (v' := .bool true) (.bin rfl rfl rfl) (congrArg Value.bool (decide_eq_true (rfl)))) rfl rfl ?_
  refine RL.ev (.pick_t rfl rfl) rfl rfl ?_
  refine RL.ev (.move rfl) rfl rfl ?_
  refine RL.ev (.loadR ((⟨5, 2⟩ : It).cells) sh42 rfl hb_3.row rfl) rfl rfl ?_
  refine RL.ev (.buildS ze42 pl42 rfl rfl) rfl rfl ?_
  refine RL.ev (.as (v' := .bool true) (.eqS (xs := (⟨5, 2⟩ : It).cells) (ys := (⟨5, 2⟩ : It).cells) fk42 eg42 sh42 rfl rfl rfl rfl rfl) (congrArg Value.bool (rfl))) rfl rfl ?_
  refine RL.ev (.pick_t rfl rfl) rfl rfl ?_
  refine RL.ev (.move rfl) rfl rfl ?_
  refine RL.ev (.move rfl) rfl rfl ?_
  refine RL.ev (.as (v' := .bool true) (.bin rfl rfl rfl) (congrArg Value.bool (decide_eq_true (rfl)))) rfl rfl ?_
  refine RL.ev (.pick_t rfl rfl) rfl rfl ?_
  refine RL.ev (.assign rfl) rfl rfl ?_
  refine RL.nil (RC.back ?_)
  refine RC.done (rs := [.tmp 0]) (vs := [_]) rfl rfl ⟨rfl, trivial⟩ ?_
  -- end 1
  exact ⟨rfl, S⟩
def few60 (A : Ar) : Ar := ⟨A.nodes.take 60, A.free.take 62⟩
theorem few60_R {w na fa A} (h : ArR w na fa A) : ArR w na fa (few60 A) :=
  ⟨by rw [few60, List.map_take]; exact h.nodes.take _, by rw [few60, List.map_take]; exact h.free.take _, fun x hx => h.nok x (List.mem_of_mem_take hx), fun x hx => h.fok x (List.mem_of_mem_take hx)⟩
theorem c_few7 (A : Ar) (na fa : Option Addr) (nc fc : Nat) (hnc : A.nodes.length ≤ nc) (hfc : A.free.length ≤ fc) (w : World) :
    FC Try.prog 19 [arV na fa nc fc A] w (Val (arV na fa nc fc (few60 A)) w) := by
  refine FC.intro Try.func19 rfl Try.ntmps19 rfl ?_
  have S := Sub.refl w
  refine RC.seq ?_
  refine RC.region rfl ?_
  refine RL.box rfl rfl rfl (fun b_1 w_1 e_1 z_1 hb_1 s_1 => ?_)
  have ge_1 := S.le e_1
  have S := S.trans s_1
  have hb_1 : Has w_1 b_1 ([.slice na A.nodes.length nc, .slice fa A.free.length fc]) _ := hb_1
  refine RL.alloc ze28 rfl rfl (fun b_2 w_2 e_2 z_2 hb_2 s_2 => ?_)
  have ge_2 := S.le e_2
  have n_1__2 := hb_1.ne e_2
  have S := S.trans s_2
  have hb_1 := hb_1.sub s_2
  refine RL.nil (RC.back ?_)
  refine RC.seq ?_
  refine RC.drawD (fun k => k = b_1) [15, 17] w_2.heap.size 18 rfl rfl mxo (fun w1 s2 => ?_)
  have hNN : ∀ k, ((k = b_1) ∨ w_2.heap.size ≤ k) → w.heap.size ≤ k := fun k e => e.elim (fun e => e ▸ ge_1) (fun e => Nat.le_trans S.size e)
  have ent_S := S.size
  have hN0 : ∀ k, w_2.heap.size ≤ k → w.heap.size ≤ k := fun k e => Nat.le_trans S.size e
  have ltD_b_1 := hb_1.lt
  have ltD_b_2 := hb_2.lt
  have szD := Nat.le_refl w_2.heap.size
  have S := S.trans s2
  have hb_1 := hb_1.sub s2
  have hb_2 := hb_2.sub s2
  have szD := Nat.le_trans szD s2.size
  refine RD.take 0 rfl (by kernel_rfl) (by kernel_rfl) (by kernel_rfl) (fun w' s' => .field0 fo28_0 rfl) rfl rfl ?_
  refine RD.takeL 1 rfl (by kernel_rfl) (by kernel_rfl) (by kernel_rfl) (by kernel_rfl) (fun w' s' => .load1 sh25 rfl ((hb_1.step s' (fun e => Nat.not_le.2 ltD_b_1 e)).cell rfl)) rfl rfl ?_
  refine RD.take 2 rfl (by kernel_rfl) (by kernel_rfl) (by kernel_rfl) (fun w' s' => .field0 fo28_0 rfl) rfl rfl ?_
  refine RD.takeL 3 rfl (by kernel_rfl) (by kernel_rfl) (by kernel_rfl) (by kernel_rfl) (fun w' s' => .load1 sh25 rfl ((hb_1.step s' (fun e => Nat.not_le.2 ltD_b_1 e)).cell rfl)) rfl rfl ?_
  refine RD.take 4 rfl (by kernel_rfl) (by kernel_rfl) (by kernel_rfl) (fun w' s' => .len sl25 rfl) rfl rfl ?_
  refine RD.take 5 rfl (by kernel_rfl) (by kernel_rfl) (by kernel_rfl) (fun w' s' => .min2 rfl rfl) rfl rfl ?_
  refine RD.take 6 rfl (by kernel_rfl) (by kernel_rfl) (by kernel_rfl) (fun w' s' => .as (v' := .slice na (A.nodes.take 60).length nc) (.sliceHi sl25 rfl rfl (by split <;> omega)) (by rw [← few_len]; rfl)) rfl rfl ?_
  refine RD.take 7 rfl (by kernel_rfl) (by kernel_rfl) (by kernel_rfl) (fun w' s' => .field0 fo28_1 rfl) rfl rfl ?_
  refine RD.takeL 8 rfl (by kernel_rfl) (by kernel_rfl) (by kernel_rfl) (by kernel_rfl) (fun w' s' => .load1 sh26 rfl ((hb_1.step s' (fun e => Nat.not_le.2 ltD_b_1 e)).cell rfl)) rfl rfl ?_
  refine RD.take 9 rfl (by kernel_rfl) (by kernel_rfl) (by kernel_rfl) (fun w' s' => .field0 fo28_1 rfl) rfl rfl ?_
  refine RD.takeL 10 rfl (by kernel_rfl) (by kernel_rfl) (by kernel_rfl) (by kernel_rfl) (fun w' s' => .load1 sh26 rfl ((hb_1.step s' (fun e => Nat.not_le.2 ltD_b_1 e)).cell rfl)) rfl rfl ?_
  refine RD.take 11 rfl (by kernel_rfl) (by kernel_rfl) (by kernel_rfl) (fun w' s' => .len sl26 rfl) rfl rfl ?_
  refine RD.take 12 rfl (by kernel_rfl) (by kernel_rfl) (by kernel_rfl) (fun w' s' => .min2 rfl rfl) rfl rfl ?_
  refine RD.take 13 rfl (by kernel_rfl) (by kernel_rfl) (by kernel_rfl) (fun w' s' => .as (v' := .slice fa (A.free.take 62).length fc) (.sliceHi sl26 rfl rfl (by split <;> omega)) (by rw [← few_len]; rfl)) rfl rfl ?_
  refine RD.take 14 rfl (by kernel_rfl) (by kernel_rfl) (by kernel_rfl) (fun w' s' => .field0 fo28_0 rfl) rfl rfl ?_
  refine RD.all [15] (by kernel_rfl) rfl (RDs.cons rfl ?_ (RDs.nil))
  refine RL.store sh25 rfl rfl rfl hb_1 (by exact Nat.le_of_ble_eq_true rfl) (by rfl) rfl (fun w3 z3 hb_1 a3 => ?_)
  have S := S.upd a3 ge_1
  have hb_2 := hb_2.upd a3 n_1__2.symm
  have szD := Nat.le_trans szD a3.size
  refine RD.backW rfl (a3.mono fun k _ e => e ▸ (.inl (rfl))) ?_
  refine RD.take 16 rfl (by kernel_rfl) (by kernel_rfl) (by kernel_rfl) (fun w' s' => .field0 fo28_1 rfl) rfl rfl ?_
  refine RD.all [17] (by kernel_rfl) rfl (RDs.cons rfl ?_ (RDs.nil))
  refine RL.store sh26 rfl rfl rfl hb_1 (by exact Nat.le_of_ble_eq_true rfl) (by rfl) rfl (fun w4 z4 hb_1 a4 => ?_)
  have S := S.upd a4 ge_1
  have hb_2 := hb_2.upd a4 n_1__2.symm
  have szD := Nat.le_trans szD a4.size
  refine RD.backW rfl (a4.mono fun k _ e => e ▸ (.inl (rfl))) ?_
  refine RD.done (by kernel_rfl) (RC.back ?_)
  refine RC.seq ?_
  refine RC.region rfl ?_
  refine RL.ev (.loadR ([.slice na (A.nodes.take 60).length nc, .slice fa (A.free.take 62).length fc]) sh28 rfl hb_1.row rfl) rfl rfl ?_
  refine RL.store sh28 rfl rfl rfl hb_2 (by exact Nat.le_of_ble_eq_true rfl) (by rfl) rfl (fun w5 z5 hb_2 a5 => ?_)
  have S := S.upd a5 ge_2
  have hb_1 := hb_1.upd a5 n_1__2
  have hb_2 : Has w5 b_2 ([.slice na (A.nodes.take 60).length nc, .slice fa (A.free.take 62).length fc]) _ := hb_2.now (by kernel_rfl)
  refine RL.nil (RC.back ?_)
  refine RC.done (rs := [.cell 2 28]) (vs := [_]) rfl rfl ⟨⟨_, rfl, .inr ⟨[.slice na (A.nodes.take 60).length nc, .slice fa (A.free.take 62).length fc], sh28, hb_2.row, rfl⟩⟩, trivial⟩ ?_
  -- end 1
  exact ⟨rfl, S⟩
end Go.Proofs.Ytekdjjppdijkmaa
