/-
  What the statements about spans share.
-/
import Derived.Test.YtdmaogopibljoaaSpan
import Derived.Test.YtdmaogopibljoaaOrderTellP
set_option linter.unusedVariables false
set_option linter.unusedSimpArgs false
namespace Go.Proofs.Ytdmaogopibljoaa
open Go Go.XL

section
variable {P : Program} {F : List (Nat × Value)} {w : World}
theorem _root_.Go.XL.EvOp.min3 {x y z k a b c ts} (hx : XL.ev F x = some (.int k a)) (hy : XL.ev F y = some (.int k b)) (hz : XL.ev F z = some (.int k c)) : EvOp P F (.call ⟨.builtin .min, #[x, y, z], ts⟩) w (.int k (if c < (if b < a then b else a) then c else (if b < a then b else a))) := fun _ _ _ _ _ ρ hρ w' _ => by
  simp only [execOp, resolve, hρ x _ hx, hρ y _ hy, hρ z _ hz, bind, Sem.bind, pure, invoke, builtin, List.map_toArray, List.map_cons, List.map_nil]
  by_cases q : b < a <;> simp [Builtin.min_, Builtin.min2, bind, Sem.bind, Sem.run, pure, q]
theorem _root_.Go.XL.EvOp.max3 {x y z k a b c ts} (hx : XL.ev F x = some (.int k a)) (hy : XL.ev F y = some (.int k b)) (hz : XL.ev F z = some (.int k c)) : EvOp P F (.call ⟨.builtin .max, #[x, y, z], ts⟩) w (.int k (if (if a < b then b else a) < c then c else (if a < b then b else a))) := fun _ _ _ _ _ ρ hρ w' _ => by
  simp only [execOp, resolve, hρ x _ hx, hρ y _ hy, hρ z _ hz, bind, Sem.bind, pure, invoke, builtin, List.map_toArray, List.map_cons, List.map_nil]
  by_cases q : a < b <;> simp [Builtin.max_, Builtin.max2, bind, Sem.bind, Sem.run, pure, q]
end
theorem eqL_it_iff (x y : It) : eqL x.cells y.cells = decide (x = y) := by
  obtain ⟨a, b⟩ := x
  obtain ⟨c, d⟩ := y
  simp [eqL, eq1, It.cells]
  rfl
theorem take_ext {l m : List It} {i : Nat} {x y : It} (hx : l[i]? = some x) (hy : m[i]? = some y) (h : l.take i = m.take i) (e : x = y) : l.take (i + 1) = m.take (i + 1) := by
  rw [List.take_add_one, List.take_add_one, hx, hy, h, e]
theorem c_same (l m : List It) (a b : Option Addr) (c d n k : Nat) (hn : n = l.length) (hk : k = m.length) (w : World) (hl : Sl w a 2 (l.map It.cells)) (hm : Sl w b 2 (m.map It.cells)) (hb : l.length ≤ 1000000) :
    FC Try.prog 11 [.slice a n c, .slice b k d] w (Val (.bool (decide (l = m))) w) := by
  subst hn hk
  refine FC.intro Try.func11 rfl Try.ntmps11 rfl ?_
  have S := Sub.refl w
  refine RC.seq ?_
  refine RC.region rfl ?_
  refine RL.ev (.assign rfl) rfl rfl ?_
  refine RL.nil (RC.back ?_)
  refine RC.seq ?_
  refine RC.seq ?_
  refine RC.region rfl ?_
  refine RL.ev (.move rfl) rfl rfl ?_
  refine RL.ev (.len sl23 rfl) rfl rfl ?_
  refine RL.ev (.move rfl) rfl rfl ?_
  refine RL.ev (.len sl23 rfl) rfl rfl ?_
  refine RL.ev (.bin rfl rfl rfl) rfl rfl ?_
  refine RL.nil (RC.back ?_)
  refine RC.cond_dec rfl (fun h1 => ?_) (fun h1 => ?_)
  ·
    have hne : ¬ l = m := (fun e => by subst e; exact absurd rfl h1)
    refine RC.seq ?_
    refine RC.region rfl ?_
    refine RL.ev (.assign rfl) rfl rfl ?_
    refine RL.nil (RC.back ?_)
    refine RC.done (rs := [.tmp 4]) (vs := [_]) rfl rfl ⟨rfl, trivial⟩ ?_
    -- end 1
    rw [decide_eq_false hne]
    exact ⟨rfl, S⟩
  ·
    have hlen : l.length = m.length := (by have := h1; omega)
    refine RC.skip (RC.back ?_)
    refine RC.seq ?_
    refine RC.seq ?_
    refine RC.region rfl ?_
    refine RL.ev (.move rfl) rfl rfl ?_
    refine RL.ev (.len sl23 rfl) rfl rfl ?_
    refine RL.ev (.move rfl) rfl rfl ?_
    refine RL.nil (RC.back ?_)
    refine RC.block ?_
    refine RC.loop (α := Nat) (fun i => [(0, .slice a l.length c), (1, .slice b m.length d), (12, .int .i64 (l.length : Int)), (13, .int .i64 (i : Int))]) (fun i w2 => (i ≤ l.length ∧ l.take i = m.take i) ∧ Sub w w2) (fun i => l.length - i) 0 (keep_of (by repeat (first | exact trivial | refine And.intro rfl ?_))) (⟨⟨Nat.zero_le _, by simp⟩, S⟩) (fun i w2 hJ => ?_)
    obtain ⟨⟨hi, hp⟩, S⟩ := hJ
    refine RC.seq ?_
    refine RC.region rfl ?_
    refine RL.ev (.bin rfl rfl rfl) rfl rfl ?_
    refine RL.nil (RC.back ?_)
    refine RC.seq ?_
    refine RC.cond_dec rfl (fun h3 => ?_) (fun h3 => ?_)
    ·
      obtain ⟨x, hx⟩ := getSome (l := l) (i := i) (by omega)
      obtain ⟨y, hy⟩ := getSome (l := m) (i := i) (by omega)
      refine RC.skip (RC.back ?_)
      refine RC.seq ?_
      refine RC.block ?_
      refine RC.seq ?_
      refine RC.region rfl ?_
      refine RL.ev (.move rfl) rfl rfl ?_
      refine RL.ev (.assign rfl) rfl rfl ?_
      refine RL.nil (RC.back ?_)
      refine RC.seq ?_
      refine RC.draw rfl mxo (by kernel_rfl) ?_
      refine RQ.ev (.move rfl) rfl rfl ?_
      refine RQ.ev (.move rfl) rfl rfl ?_
      refine RQ.ev (.indexS sl23 rfl rfl (by omega) (hl.is (i := 0) (by simp only [List.length_map]; omega))) rfl rfl ?_
      refine RQ.ev (.loadR (x.cells) sh42 rfl ((hl.sub S).rowAt (enc := It.cells) (i := i) hx) rfl) rfl rfl ?_
      refine RQ.ev (.move rfl) rfl rfl ?_
      refine RQ.ev (.move rfl) rfl rfl ?_
      refine RQ.ev (.indexS sl23 rfl rfl (by omega) (hm.is (i := 0) (by simp only [List.length_map]; omega))) rfl rfl ?_
      refine RQ.ev (.loadR (y.cells) sh42 rfl ((hm.sub S).rowAt (enc := It.cells) (i := i) hy) rfl) rfl rfl ?_
      refine RQ.ev (.neS (xs := x.cells) (ys := y.cells) fk42 eg42 sh42 rfl rfl rfl rfl rfl) rfl rfl ?_
      refine RQ.nil (fun w4 s5 => RC.back ?_)
      have S := S.trans s5
      refine RC.cond rfl (fun h6 => ?_) (fun h6 => ?_)
      ·
        have hxy : ¬ x = y := (fun e => by have h2 := h6; rw [eqL_it_iff, decide_eq_true e] at h2; cases h2)
        have hne : ¬ l = m := (fun e => by subst e; rw [hx] at hy; cases hy; exact hxy rfl)
        refine RC.seq ?_
        refine RC.region rfl ?_
        refine RL.ev (.assign rfl) rfl rfl ?_
        refine RL.nil (RC.back ?_)
        refine RC.done (rs := [.tmp 4]) (vs := [_]) rfl rfl ⟨rfl, trivial⟩ ?_
        -- end 2
        rw [decide_eq_false hne]
        exact ⟨rfl, S⟩
      ·
        have hxy : x = y := (by have h2 := h6; rw [eqL_it_iff] at h2; simpa using h2)
        refine RC.skip (RC.back ?_)
        refine RC.region rfl ?_
        refine RL.ev (.as (.bin rfl rfl rfl) (wi64 (y := ((i + 1 : Nat) : Int)) (by omega) (by omega))) rfl rfl ?_
        refine RL.ev (.move rfl) rfl rfl ?_
        exact RL.nil (fun a ka => ⟨i + 1, ⟨⟨by omega, take_ext hx hy hp hxy⟩, S⟩, by omega, ka.keep (keep_of (by repeat (first | exact trivial | refine And.intro rfl ?_)))⟩)
    ·
      obtain rfl : i = l.length := (by omega)
      rw [List.take_length, hlen, List.take_length] at hp
      refine RC.exit rfl (RC.back ?_)
      refine RC.seq ?_
      refine RC.region rfl ?_
      refine RL.ev (.assign rfl) rfl rfl ?_
      refine RL.nil (RC.back ?_)
      refine RC.done (rs := [.tmp 4]) (vs := [_]) rfl rfl ⟨rfl, trivial⟩ ?_
      -- end 3
      rw [decide_eq_true hp]
      exact ⟨rfl, S⟩
def row8 : List It := [⟨1, 0⟩, ⟨5, 0⟩, ⟨9, 0⟩]
theorem row8_srt : Srt row8 := by unfold Srt row8; decide
theorem row8_ok : ∀ z ∈ row8, z.ok := by
  intro z hz
  simp only [row8, List.mem_cons, List.not_mem_nil, or_false] at hz
  rcases hz with rfl | rfl | rfl <;> exact ⟨by unfold I64; decide, by unfold I64; decide⟩
theorem c_alive8 (w : World) : FC Try.prog 10 [] w (Val (.bool true) w) := by
  have hB := build_ok (size := 9) row8_srt (by decide) (by decide) (by decide)
  have hM := build_map (size := 9) row8_srt (by decide) (by decide) (by decide) (by decide)
  refine FC.intro Try.func10 rfl Try.ntmps10 rfl ?_
  have S := Sub.refl w
  refine RC.seq ?_
  refine RC.region rfl ?_
  refine RL.ev (.assign rfl) rfl rfl ?_
  refine RL.nil (RC.back ?_)
  refine RC.seq ?_
  refine RC.region rfl ?_
  refine RL.ev (.buildS ze42 pl42 rfl rfl) rfl rfl ?_
  refine RL.ev (.buildS ze42 pl42 rfl rfl) rfl rfl ?_
  refine RL.ev (.buildS ze42 pl42 rfl rfl) rfl rfl ?_
  refine RL.buildSliceN (vs := [_, _, _]) sl23 _ ze42 rfl ⟨rfl, rfl, rfl, trivial⟩ rfl rfl rfl rfl rfl rfl (fun b_9 w_9 e_9 z_9 hb_9 s_9 => ?_)
  have ge_9 := S.le e_9
  have S := S.trans s_9
  refine RL.call rfl ok8 (c_build 9 row8 (some ⟨b_9, 0, none⟩) 3 3 rfl (by decide) row8_srt row8_ok (by decide) (by decide) (by decide) w_9 (Has.sl0 (rows := row8.map It.cells) hb_9 it_rows)) rfl rfl ?_
  rintro _ w1 ⟨na, fa, nc, fc, rfl, hn, hf, hi, s2⟩
  have hA := (hi (fun _ => False) (fun _ h => h.elim)).now
  have S := S.trans s2
  have hb_9 := hb_9.sub s2
  obtain ⟨W1, S1, hA⟩ : ∃ W1, Sub W1 w1 ∧ ArR W1 na fa (buildA 9 row8) := ⟨_, Sub.refl _, hA⟩
  refine RL.ev (.move rfl) rfl rfl ?_
  refine RL.ev (.extract rfl rfl) rfl rfl ?_
  refine RL.ev (.extract rfl rfl) rfl rfl ?_
  refine RL.alloc ze28 rfl rfl (fun b_1 w_1 e_1 z_1 hb_1 s_1 => ?_)
  have ge_1 := S.le e_1
  have n_9__1 := hb_9.ne e_1
  have S := S.trans s_1
  have hb_9 := hb_9.sub s_1
  have geS1_1 := S1.le e_1
  have S1 := S1.trans s_1
  refine RL.store sh28 rfl rfl rfl hb_1 (by exact Nat.le_of_ble_eq_true rfl) (by rfl) rfl (fun w3 z3 hb_1 a3 => ?_)
  have S := S.upd a3 ge_1
  have hb_9 := hb_9.upd a3 n_9__1
  have S1 := S1.upd a3 geS1_1
  have hb_1 : Has w3 b_1 ([.slice na (buildA 9 row8).nodes.length nc, .slice fa (buildA 9 row8).free.length fc]) _ := hb_1.now (by kernel_rfl)
  refine RL.ev (.assign rfl) rfl rfl ?_
  refine RL.nil (RC.back ?_)
  refine RC.seq ?_
  refine RC.region rfl ?_
  refine RL.ev (.loadR ([.slice na (buildA 9 row8).nodes.length nc, .slice fa (buildA 9 row8).free.length fc]) sh28 rfl hb_1.row rfl) rfl rfl ?_
  refine RL.ev (.move rfl) rfl rfl ?_
  refine RL.call rfl ok9 (c_all (buildA 9 row8) na fa nc fc (buildR 9 row8) hB.u 2 9 w3 (hA.sub S1)) rfl rfl ?_
  rintro _ w4 ⟨s5, a5, c5, rows, e5, rfl, o, _, hx⟩
  have S := S.trans s5
  have hb_9 := hb_9.sub s5
  have S1 := S1.trans s5
  have hb_1 := hb_1.sub s5
  obtain ⟨rfl, rfl⟩ := hx row8 hM hB.isT
  obtain ⟨W2, S2, o⟩ : ∃ W2, Sub W2 w4 ∧ Ows _ W2 _ _ _ _ := ⟨_, Sub.refl _, o⟩
  refine RL.ev (.move rfl) rfl rfl ?_
  refine RL.ev (.extract rfl rfl) rfl rfl ?_
  refine RL.ev (.extract rfl rfl) rfl rfl ?_
  refine RL.ev (.assign rfl) rfl rfl ?_
  refine RL.ev (.assign rfl) rfl rfl ?_
  refine RL.nil (RC.back ?_)
  refine RC.seq ?_
  refine RC.region rfl ?_
  refine RL.ev (.move rfl) rfl rfl ?_
  refine RL.ev (.as (v' := .bool true) (.bin rfl rfl rfl) (congrArg Value.bool (decide_eq_true (rfl)))) rfl rfl ?_
  refine RL.ev (.move rfl) rfl rfl ?_
  refine RL.ev (.move rfl) rfl rfl ?_
  refine RL.ev (.len sl23 rfl) rfl rfl ?_
  refine RL.ev (.as (v' := .bool true) (.bin rfl rfl rfl) (congrArg Value.bool (decide_eq_true (rfl)))) rfl rfl ?_
  refine RL.ev (.pick_t rfl rfl) rfl rfl ?_
  refine RL.ev (.move rfl) rfl rfl ?_
  refine RL.ev (.move rfl) rfl rfl ?_
  refine RL.ev (.indexS sl23 rfl rfl ((show (0 : Int) ≤ 0 ∧ (0 : Int) < (((inR 2 9 row8).map It.cells).length : Nat) from by decide)) ((o.sl.1.sub S2).is (i := 0) (show 0 < ((inR 2 9 row8).map It.cells).length from by decide))) rfl rfl ?_
  refine RL.ev (.fieldA fo42_0 rfl) rfl rfl ?_
  refine RL.ev (.load1 sh2 rfl ((o.sl.1.sub S2).cell (enc := It.cells) (i := 0) (j := 0) rfl rfl)) rfl rfl ?_
  refine RL.ev (.as (v' := .bool true) (.bin rfl rfl rfl) (congrArg Value.bool (decide_eq_true (rfl)))) rfl rfl ?_
  refine RL.ev (.pick_t rfl rfl) rfl rfl ?_
  refine RL.ev (.assign rfl) rfl rfl ?_
  refine RL.nil (RC.back ?_)
  refine RC.done (rs := [.tmp 0]) (vs := [_]) rfl rfl ⟨rfl, trivial⟩ ?_
  -- end 1
  exact ⟨rfl, S⟩
/-! ### rows of rows -/
theorem inR_parts : ∀ {l : List It}, Srt l → ∀ {low mid high : Int}, low ≤ mid → mid ≤ high → inR low mid l ++ inR (mid + 1) high l = inR low high l
  | [], _, _, _, _, _, _ => rfl
  | x :: l, h, low, mid, high, h1, h2 => by
    have h3 := List.pairwise_cons.1 h
    have ih := inR_parts h3.2 h1 h2
    unfold inR at *
    by_cases q : x.k ≤ mid
    · have e2 : (x :: l).filter (fun x => decide (mid + 1 ≤ x.k ∧ x.k ≤ high)) = l.filter (fun x => decide (mid + 1 ≤ x.k ∧ x.k ≤ high)) := by rw [List.filter_cons, if_neg (by simp; omega)]
      rw [e2, List.filter_cons, List.filter_cons]
      by_cases q2 : low ≤ x.k
      · rw [if_pos (by simp; omega), if_pos (by simp; omega), List.cons_append, ih]
      · rw [if_neg (by simp; omega), if_neg (by simp; omega), ih]
    · have e1 : (x :: l).filter (fun x => decide (low ≤ x.k ∧ x.k ≤ mid)) = [] := by
        rw [List.filter_eq_nil_iff]
        intro y hy
        rcases List.mem_cons.1 hy with rfl | hy
        · simp; omega
        · have := h3.1 y hy; simp; omega
      rw [e1, List.nil_append]
      refine List.filter_congr fun y hy => ?_
      have : mid < y.k := by
        rcases List.mem_cons.1 hy with rfl | hy
        · omega
        · have := h3.1 y hy; omega
      exact decide_eq_decide.2 ⟨fun h => by omega, fun h => by omega⟩
end Go.Proofs.Ytdmaogopibljoaa
