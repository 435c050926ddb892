/-
  Two arenas, two rows of numbers, held against each other.
-/
import Derived.Test.YtfcmbojlflgpmaaArenaMakes
set_option linter.unusedVariables false
set_option linter.unusedSimpArgs false
namespace Go.Proofs.Ytfcmbojlflgpmaa
open Go Go.XL

def likeB (A B : Ar) : Bool := decide (A.nodes = B.nodes ∧ A.free = B.free)
theorem upto_eq {α : Type} {l m : List α} (hl : l.length = m.length) (h : ∀ j : Nat, j < l.length → l[j]? = m[j]?) : l = m := by
  apply List.ext_getElem? ; intro k
  by_cases hk : k < l.length
  · exact h k hk
  · rw [List.getElem?_eq_none (by omega), List.getElem?_eq_none (by omega)]

theorem c_r4Like (A B : Ar) (na fa : Option Addr) (nc fc : Nat) (nb fb : Option Addr) (ncb fcb : Nat) (w : World) (hA : ArR w na fa A) (hB : ArR w nb fb B) (hl1 : A.nodes.length ≤ 1000000000) (hl2 : A.free.length ≤ 1000000000) :
    FC Try.prog 13 [arV na fa nc fc A, arV nb fb ncb fcb B] w (Val (.bool (likeB A B)) w) := by
  have hAn := hA.nodes
  have hAf := hA.free
  have hBn := hB.nodes
  have hBf := hB.free
  refine FC.intro Try.func13 rfl Try.ntmps13 rfl ?_
  have S := Sub.refl w
  refine RC.seq ?_
  refine RC.region rfl ?_
  refine RL.box rfl rfl rfl (fun b_2 w_2 e_2 z_2 hb_2 s_2 => ?_)
  have ge_2 := S.le e_2
  have S := S.trans s_2
  have hb_2 : Has w_2 b_2 ([.slice na A.nodes.length nc, .slice fa A.free.length fc]) _ := hb_2
  refine RL.box rfl rfl rfl (fun b_3 w_3 e_3 z_3 hb_3 s_3 => ?_)
  have ge_3 := S.le e_3
  have n_2__3 := hb_2.ne e_3
  have S := S.trans s_3
  have hb_2 := hb_2.sub s_3
  have hb_3 : Has w_3 b_3 ([.slice nb B.nodes.length ncb, .slice fb B.free.length fcb]) _ := hb_3
  refine RL.ev (.assign rfl) rfl rfl ?_
  refine RL.nil (RC.back ?_)
  refine RC.seq ?_
  refine RC.seq ?_
  refine RC.region rfl ?_
  refine RL.ev (.field0 fo25_0 rfl) rfl rfl ?_
  refine RL.ev (.load1 sh22 rfl (hb_2.cell rfl)) rfl rfl ?_
  refine RL.ev (.len sl22 rfl) rfl rfl ?_
  refine RL.ev (.field0 fo25_0 rfl) rfl rfl ?_
  refine RL.ev (.load1 sh22 rfl (hb_3.cell rfl)) rfl rfl ?_
  refine RL.ev (.len sl22 rfl) rfl rfl ?_
  refine RL.ev (.bin rfl rfl rfl) rfl rfl ?_
  refine RL.ev (.move rfl) rfl rfl ?_
  refine RL.split 14 rfl (fun h1 => ?_) (fun h1 => ?_)
  ·
    have h1 := h1
    refine RL.off rfl rfl ?_
    refine RL.off rfl rfl ?_
    refine RL.off rfl rfl ?_
    refine RL.off rfl rfl ?_
    refine RL.off rfl rfl ?_
    refine RL.off rfl rfl ?_
    refine RL.off rfl rfl ?_
    refine RL.ev (.pick_t rfl rfl) rfl rfl ?_
    refine RL.nil (RC.back ?_)
    refine RC.cond_t rfl ?_
    refine RC.seq ?_
    refine RC.region rfl ?_
    refine RL.ev (.assign rfl) rfl rfl ?_
    refine RL.nil (RC.back ?_)
    refine RC.done (rs := [.tmp 4]) (vs := [_]) rfl rfl ⟨rfl, trivial⟩ ?_
    -- end 1
    exact ⟨congrArg Value.bool (decide_eq_false (fun h => h1 (by rw [h.1]))).symm, S⟩
  ·
    have hn := Decidable.not_not.1 h1
    refine RL.ev (.field0 fo25_1 rfl) rfl rfl ?_
    refine RL.ev (.load1 sh23 rfl (hb_2.cell rfl)) rfl rfl ?_
    refine RL.ev (.len sl23 rfl) rfl rfl ?_
    refine RL.ev (.field0 fo25_1 rfl) rfl rfl ?_
    refine RL.ev (.load1 sh23 rfl (hb_3.cell rfl)) rfl rfl ?_
    refine RL.ev (.len sl23 rfl) rfl rfl ?_
    refine RL.ev (.bin rfl rfl rfl) rfl rfl ?_
    refine RL.ev (.pick_f rfl rfl) rfl rfl ?_
    refine RL.nil (RC.back ?_)
    refine RC.cond_dec rfl (fun h2 => ?_) (fun h2 => ?_)
    ·
      have h2 := h2
      refine RC.seq ?_
      refine RC.region rfl ?_
      refine RL.ev (.assign rfl) rfl rfl ?_
      refine RL.nil (RC.back ?_)
      refine RC.done (rs := [.tmp 4]) (vs := [_]) rfl rfl ⟨rfl, trivial⟩ ?_
      -- end 2
      exact ⟨congrArg Value.bool (decide_eq_false (fun h => h2 (by rw [h.2]))).symm, S⟩
    ·
      have hf := Decidable.not_not.1 h2
      refine RC.skip (RC.back ?_)
      refine RC.seq ?_
      refine RC.seq ?_
      refine RC.region rfl ?_
      refine RL.ev (.field0 fo25_0 rfl) rfl rfl ?_
      refine RL.ev (.load1 sh22 rfl (hb_2.cell rfl)) rfl rfl ?_
      refine RL.ev (.len sl22 rfl) rfl rfl ?_
      refine RL.ev (.move rfl) rfl rfl ?_
      refine RL.nil (RC.back ?_)
      refine RC.block ?_
      refine RC.loop (α := Nat) (fun i => [(2, .pointer (some ⟨b_2, 0, none⟩)), (3, .pointer (some ⟨b_3, 0, none⟩)), (25, .int .i64 (A.nodes.length : Int)), (26, .int .i64 (i : Int))]) (fun i w3 => i ≤ A.nodes.length ∧ (∀ j : Nat, j < i → A.nodes[j]? = B.nodes[j]?) ∧ Has w3 b_2 [.slice na A.nodes.length nc, .slice fa A.free.length fc] 25 ∧ Has w3 b_3 [.slice nb B.nodes.length ncb, .slice fb B.free.length fcb] 25 ∧ Sub w w3) (fun i => A.nodes.length - i) 0 (keep_of (by repeat (first | exact trivial | refine And.intro rfl ?_))) (⟨Nat.zero_le _, fun j h => absurd h (by omega), hb_2, hb_3, S⟩) (fun i w3 hJ => ?_)
      obtain ⟨hi, hq, hb_2, hb_3, S⟩ := hJ
      refine RC.seq ?_
      refine RC.region rfl ?_
      refine RL.ev (.bin rfl rfl rfl) rfl rfl ?_
      refine RL.nil (RC.back ?_)
      refine RC.seq ?_
      refine RC.cond_dec rfl (fun h4 => ?_) (fun h4 => ?_)
      ·
        obtain ⟨x, hx⟩ := getSome (l := A.nodes) (i := i) (by omega)
        obtain ⟨y, hy⟩ := getSome (l := B.nodes) (i := i) (by omega)
        refine RC.skip (RC.back ?_)
        refine RC.seq ?_
        refine RC.block ?_
        refine RC.seq ?_
        refine RC.region rfl ?_
        refine RL.ev (.move rfl) rfl rfl ?_
        refine RL.ev (.assign rfl) rfl rfl ?_
        refine RL.nil (RC.back ?_)
        refine RC.seq ?_
        refine RC.draw rfl mxo (by kernel_rfl) ?_
        refine RQ.ev (.field0 fo25_0 rfl) rfl rfl ?_
        refine RQ.ev (.load1 sh22 rfl (hb_2.cell rfl)) rfl rfl ?_
        refine RQ.ev (.move rfl) rfl rfl ?_
        refine RQ.ev (.indexS sl22 rfl rfl (by omega) (hAn.is (i := 0) (by simp only [List.length_map]; omega))) rfl rfl ?_
        refine RQ.ev (.loadR (x.cells) sh35 rfl ((hAn.sub S).rowAt (enc := Node.cells) (i := i) hx) rfl) rfl rfl ?_
        refine RQ.ev (.field0 fo25_0 rfl) rfl rfl ?_
        refine RQ.ev (.load1 sh22 rfl (hb_3.cell rfl)) rfl rfl ?_
        refine RQ.ev (.move rfl) rfl rfl ?_
        refine RQ.ev (.indexS sl22 rfl rfl (by omega) (hBn.is (i := 0) (by simp only [List.length_map]; omega))) rfl rfl ?_
        refine RQ.ev (.loadR (y.cells) sh35 rfl ((hBn.sub S).rowAt (enc := Node.cells) (i := i) hy) rfl) rfl rfl ?_
        refine RQ.ev (.neS (xs := x.cells) (ys := y.cells) fk35 eg35 sh35 rfl rfl rfl rfl rfl) rfl rfl ?_
        refine RQ.nil (fun w5 s6 => RC.back ?_)
        have S := S.trans s6
        have hb_2 := hb_2.sub s6
        have hb_3 := hb_3.sub s6
        refine RC.cond rfl (fun h7 => ?_) (fun h7 => ?_)
        ·
          have hne : ¬ x = y := (by have := h7; rw [eqL_cells] at this; simpa using this)
          refine RC.seq ?_
          refine RC.region rfl ?_
          refine RL.ev (.assign rfl) rfl rfl ?_
          refine RL.nil (RC.back ?_)
          refine RC.done (rs := [.tmp 4]) (vs := [_]) rfl rfl ⟨rfl, trivial⟩ ?_
          -- end 3
          exact ⟨congrArg Value.bool (decide_eq_false (fun h => hne (by have := hx; rw [h.1, hy] at this; cases this; rfl))).symm, S⟩
        ·
          have hxy : x = y := (by have := h7; rw [eqL_cells] at this; simpa using this)
          refine RC.skip (RC.back ?_)
          refine RC.region rfl ?_
          refine RL.ev (.as (.bin rfl rfl rfl) (wi64 (y := ((i + 1 : Nat) : Int)) (by omega) (by omega))) rfl rfl ?_
          refine RL.ev (.move rfl) rfl rfl ?_
          exact RL.nil (fun a ka => ⟨i + 1, ⟨by omega, fun j h => (Nat.lt_succ_iff_lt_or_eq.1 h).elim (hq j) (fun e => by subst e; rw [hx, hy, hxy]), hb_2, hb_3, S⟩, by omega, ka.keep (keep_of (by repeat (first | exact trivial | refine And.intro rfl ?_)))⟩)
      ·
        obtain rfl : i = A.nodes.length := (by omega)
        have hnodes : A.nodes = B.nodes := upto_eq (by omega) hq
        refine RC.exit rfl (RC.back ?_)
        refine RC.seq ?_
        refine RC.seq ?_
        refine RC.region rfl ?_
        refine RL.ev (.field0 fo25_1 rfl) rfl rfl ?_
        refine RL.ev (.load1 sh23 rfl (hb_2.cell rfl)) rfl rfl ?_
        refine RL.ev (.len sl23 rfl) rfl rfl ?_
        refine RL.ev (.move rfl) rfl rfl ?_
        refine RL.nil (RC.back ?_)
        refine RC.block ?_
        refine RC.loop (α := Nat) (fun i => [(2, .pointer (some ⟨b_2, 0, none⟩)), (3, .pointer (some ⟨b_3, 0, none⟩)), (43, .int .i64 (A.free.length : Int)), (44, .int .i64 (i : Int))]) (fun i w8 => i ≤ A.free.length ∧ (∀ j : Nat, j < i → A.free[j]? = B.free[j]?) ∧ Has w8 b_2 [.slice na A.nodes.length nc, .slice fa A.free.length fc] 25 ∧ Has w8 b_3 [.slice nb B.nodes.length ncb, .slice fb B.free.length fcb] 25 ∧ Sub w w8) (fun i => A.free.length - i) 0 (keep_of (by repeat (first | exact trivial | refine And.intro rfl ?_))) (⟨Nat.zero_le _, fun j h => absurd h (by omega), hb_2, hb_3, S⟩) (fun i w8 hJ => ?_)
        obtain ⟨hi, hq2, hb_2, hb_3, S⟩ := hJ
        refine RC.seq ?_
        refine RC.region rfl ?_
        refine RL.ev (.bin rfl rfl rfl) rfl rfl ?_
        refine RL.nil (RC.back ?_)
        refine RC.seq ?_
        refine RC.cond_dec rfl (fun h9 => ?_) (fun h9 => ?_)
        ·
          obtain ⟨x, hx⟩ := getSome (l := A.free) (i := i) (by omega)
          obtain ⟨y, hy⟩ := getSome (l := B.free) (i := i) (by omega)
          refine RC.skip (RC.back ?_)
          refine RC.seq ?_
          refine RC.block ?_
          refine RC.seq ?_
          refine RC.region rfl ?_
          refine RL.ev (.move rfl) rfl rfl ?_
          refine RL.ev (.assign rfl) rfl rfl ?_
          refine RL.nil (RC.back ?_)
          refine RC.seq ?_
          refine RC.draw rfl mxo (by kernel_rfl) ?_
          refine RQ.ev (.field0 fo25_1 rfl) rfl rfl ?_
          refine RQ.ev (.load1 sh23 rfl (hb_2.cell rfl)) rfl rfl ?_
          refine RQ.ev (.move rfl) rfl rfl ?_
          refine RQ.ev (.indexS sl23 rfl rfl (by omega) (hAf.is (i := 0) (by simp only [List.length_map]; omega))) rfl rfl ?_
          refine RQ.ev (.load1 sh3 rfl ((hAf.sub S).one (enc := i6) (i := i) hx)) rfl rfl ?_
          refine RQ.ev (.field0 fo25_1 rfl) rfl rfl ?_
          refine RQ.ev (.load1 sh23 rfl (hb_3.cell rfl)) rfl rfl ?_
          refine RQ.ev (.move rfl) rfl rfl ?_
          refine RQ.ev (.indexS sl23 rfl rfl (by omega) (hBf.is (i := 0) (by simp only [List.length_map]; omega))) rfl rfl ?_
          refine RQ.ev (.load1 sh3 rfl ((hBf.sub S).one (enc := i6) (i := i) hy)) rfl rfl ?_
          refine RQ.ev (.bin rfl rfl rfl) rfl rfl ?_
          refine RQ.nil (fun w10 s11 => RC.back ?_)
          have S := S.trans s11
          have hb_2 := hb_2.sub s11
          have hb_3 := hb_3.sub s11
          refine RC.cond_dec rfl (fun h12 => ?_) (fun h12 => ?_)
          ·
            have hne : ¬ x = y := h12
            refine RC.seq ?_
            refine RC.region rfl ?_
            refine RL.ev (.assign rfl) rfl rfl ?_
            refine RL.nil (RC.back ?_)
            refine RC.done (rs := [.tmp 4]) (vs := [_]) rfl rfl ⟨rfl, trivial⟩ ?_
            -- end 4
            exact ⟨congrArg Value.bool (decide_eq_false (fun h => hne (by have := hx; rw [h.2, hy] at this; cases this; rfl))).symm, S⟩
          ·
            have hxy : x = y := Decidable.not_not.1 h12
            refine RC.skip (RC.back ?_)
            refine RC.region rfl ?_
            refine RL.ev (.as (.bin rfl rfl rfl) (wi64 (y := ((i + 1 : Nat) : Int)) (by omega) (by omega))) rfl rfl ?_
            refine RL.ev (.move rfl) rfl rfl ?_
            exact RL.nil (fun a ka => ⟨i + 1, ⟨by omega, fun j h => (Nat.lt_succ_iff_lt_or_eq.1 h).elim (hq2 j) (fun e => by subst e; rw [hx, hy, hxy]), hb_2, hb_3, S⟩, by omega, ka.keep (keep_of (by repeat (first | exact trivial | refine And.intro rfl ?_)))⟩)
        ·
          obtain rfl : i = A.free.length := (by omega)
          have hfree : A.free = B.free := upto_eq (by omega) hq2
          refine RC.exit rfl (RC.back ?_)
          refine RC.seq ?_
          refine RC.region rfl ?_
          refine RL.ev (.assign rfl) rfl rfl ?_
          refine RL.nil (RC.back ?_)
          refine RC.done (rs := [.tmp 4]) (vs := [_]) rfl rfl ⟨rfl, trivial⟩ ?_
          -- end 5
          exact ⟨congrArg Value.bool (decide_eq_true ⟨hnodes, hfree⟩).symm, S⟩
end Go.Proofs.Ytfcmbojlflgpmaa
