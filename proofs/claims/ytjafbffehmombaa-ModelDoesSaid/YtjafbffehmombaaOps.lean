/-
  The package op: which operations may be.
-/
import Derived.Test.YtjafbffehmombaaPairMap
import Derived.Test.YtjafbffehmombaaTreapRows
set_option linter.unusedVariables false
set_option linter.unusedSimpArgs false
namespace Go.Proofs.Ytjafbffehmombaa
open Go Go.XL

def fieldAt (P : Program) (t : TypeId) (i : Nat) : Field := match P.underlying t with
  | some (.struct fs) => fs[i]!
  | _ => default
theorem pair79 : PairT Try.prog 79 (fieldAt Try.prog 79 0) (fieldAt Try.prog 79 1) :=
  ⟨by kernel_rfl, by kernel_rfl, by kernel_rfl, by kernel_rfl, by kernel_rfl, by kernel_rfl, by kernel_rfl, by kernel_rfl, by kernel_rfl⟩
/-- the entries of the literal, with their operations' places -/
def opT : List LE := [⟨2, 1, 1, .int .i64 1⟩, ⟨4, 1, 2, .int .i64 2⟩, ⟨6, 1, 3, .int .i64 1⟩, ⟨8, 1, 4, .int .i64 1⟩, ⟨10, 1, 5, .int .i64 1⟩, ⟨12, 1, 6, .int .i64 0⟩, ⟨14, 2, 1, .int .i64 1⟩, ⟨16, 2, 2, .int .i64 2⟩, ⟨18, 2, 3, .int .i64 1⟩, ⟨20, 2, 6, .int .i64 0⟩, ⟨22, 3, 1, .int .i64 1⟩, ⟨24, 3, 2, .int .i64 1⟩, ⟨26, 3, 3, .int .i64 0⟩, ⟨28, 3, 4, .int .i64 1⟩, ⟨30, 3, 5, .int .i64 0⟩, ⟨32, 3, 6, .int .i64 0⟩, ⟨34, 4, 1, .int .i64 0⟩, ⟨36, 4, 2, .int .i64 2⟩, ⟨38, 4, 3, .int .i64 0⟩, ⟨40, 4, 6, .int .i64 0⟩]
def opN (box kind : Int) : Option Value := (opT.find? fun e => decide (e.a = box ∧ e.c = kind)).map (·.v)
theorem c_numbers (w : World) : FC Try.prog 48 [] w (fun v w' => Sub w w' ∧ ∃ b, v = .map (some b) ∧ HasP w' b opN) := by
  refine FC.intro Try.func48 rfl Try.ntmps48 rfl ?_
  have S := Sub.refl w
  refine RC.seq ?_
  refine RC.region rfl ?_
  refine RL.ev (.assign rfl) rfl rfl ?_
  refine RL.nil (RC.back ?_)
  refine RC.seq ?_
  refine RC.drawD (fun k => False) [] w.heap.size 43 rfl rfl mxo (fun w1 s2 => ?_)
  have hNN : ∀ k, ((False) ∨ w.heap.size ≤ k) → w.heap.size ≤ k := fun k e => e.elim (fun e => e.elim) (fun e => Nat.le_trans S.size e)
  have ent_S := S.size
  have hN0 : ∀ k, w.heap.size ≤ k → w.heap.size ≤ k := fun k e => Nat.le_trans S.size e
  have szD := Nat.le_refl w.heap.size
  have S := S.trans s2
  have szD := Nat.le_trans szD s2.size
  refine RD.take 1 rfl (by kernel_rfl) (by kernel_rfl) (by kernel_rfl) (fun w' s' => .buildS ze79 pl79 rfl rfl) rfl rfl ?_
  refine RD.take 3 rfl (by kernel_rfl) (by kernel_rfl) (by kernel_rfl) (fun w' s' => .buildS ze79 pl79 rfl rfl) rfl rfl ?_
  refine RD.take 5 rfl (by kernel_rfl) (by kernel_rfl) (by kernel_rfl) (fun w' s' => .buildS ze79 pl79 rfl rfl) rfl rfl ?_
  refine RD.take 7 rfl (by kernel_rfl) (by kernel_rfl) (by kernel_rfl) (fun w' s' => .buildS ze79 pl79 rfl rfl) rfl rfl ?_
  refine RD.take 9 rfl (by kernel_rfl) (by kernel_rfl) (by kernel_rfl) (fun w' s' => .buildS ze79 pl79 rfl rfl) rfl rfl ?_
  refine RD.take 11 rfl (by kernel_rfl) (by kernel_rfl) (by kernel_rfl) (fun w' s' => .buildS ze79 pl79 rfl rfl) rfl rfl ?_
  refine RD.take 13 rfl (by kernel_rfl) (by kernel_rfl) (by kernel_rfl) (fun w' s' => .buildS ze79 pl79 rfl rfl) rfl rfl ?_
  refine RD.take 15 rfl (by kernel_rfl) (by kernel_rfl) (by kernel_rfl) (fun w' s' => .buildS ze79 pl79 rfl rfl) rfl rfl ?_
  refine RD.take 17 rfl (by kernel_rfl) (by kernel_rfl) (by kernel_rfl) (fun w' s' => .buildS ze79 pl79 rfl rfl) rfl rfl ?_
  refine RD.take 19 rfl (by kernel_rfl) (by kernel_rfl) (by kernel_rfl) (fun w' s' => .buildS ze79 pl79 rfl rfl) rfl rfl ?_
  refine RD.take 21 rfl (by kernel_rfl) (by kernel_rfl) (by kernel_rfl) (fun w' s' => .buildS ze79 pl79 rfl rfl) rfl rfl ?_
  refine RD.take 23 rfl (by kernel_rfl) (by kernel_rfl) (by kernel_rfl) (fun w' s' => .buildS ze79 pl79 rfl rfl) rfl rfl ?_
  refine RD.take 25 rfl (by kernel_rfl) (by kernel_rfl) (by kernel_rfl) (fun w' s' => .buildS ze79 pl79 rfl rfl) rfl rfl ?_
  refine RD.take 27 rfl (by kernel_rfl) (by kernel_rfl) (by kernel_rfl) (fun w' s' => .buildS ze79 pl79 rfl rfl) rfl rfl ?_
  refine RD.take 29 rfl (by kernel_rfl) (by kernel_rfl) (by kernel_rfl) (fun w' s' => .buildS ze79 pl79 rfl rfl) rfl rfl ?_
  refine RD.take 31 rfl (by kernel_rfl) (by kernel_rfl) (by kernel_rfl) (fun w' s' => .buildS ze79 pl79 rfl rfl) rfl rfl ?_
  refine RD.take 33 rfl (by kernel_rfl) (by kernel_rfl) (by kernel_rfl) (fun w' s' => .buildS ze79 pl79 rfl rfl) rfl rfl ?_
  refine RD.take 35 rfl (by kernel_rfl) (by kernel_rfl) (by kernel_rfl) (fun w' s' => .buildS ze79 pl79 rfl rfl) rfl rfl ?_
  refine RD.take 37 rfl (by kernel_rfl) (by kernel_rfl) (by kernel_rfl) (fun w' s' => .buildS ze79 pl79 rfl rfl) rfl rfl ?_
  refine RD.take 39 rfl (by kernel_rfl) (by kernel_rfl) (by kernel_rfl) (fun w' s' => .buildS ze79 pl79 rfl rfl) rfl rfl ?_
  refine RD.all [0] (by kernel_rfl) rfl (RDs.cons rfl ?_ (RDs.nil))
  refine RL.makeMapP rfl rfl (fun b_1 w_1 e_1 z_1 hb_1 s_1 => ?_)
  have fr_b_1 : w.heap.size ≤ b_1 := by rw [e_1]; exact szD
  have ge_1 := S.le e_1
  have S := S.trans s_1
  have szD := Nat.le_trans szD s_1.size
  refine RD.back s_1.agr ?_
  refine RD.lits opT _ 2 rfl Try.underlying76 pair79 (by intro e he; simp only [opT, List.mem_cons, List.not_mem_nil, or_false] at he; rcases he with rfl | rfl | rfl | rfl | rfl | rfl | rfl | rfl | rfl | rfl | rfl | rfl | rfl | rfl | rfl | rfl | rfl | rfl | rfl | rfl <;> exact ⟨_, _, _, _, _, _, rfl, rfl, rfl, rfl, by kernel_rfl⟩) (by decide) (by decide) (by kernel_rfl) (by kernel_rfl) (by simp [opT]) hb_1 fr_b_1 (fun w3 hb_1 a3 => ?_)
  have S := S.upd a3 ge_1
  have szD := Nat.le_trans szD a3.size
  refine RD.take 41 rfl (by kernel_rfl) (by kernel_rfl) (by kernel_rfl) (fun w' s' => .move rfl) rfl rfl ?_
  refine RD.take 42 rfl (by kernel_rfl) (by kernel_rfl) (by kernel_rfl) (fun w' s' => .assign rfl) rfl rfl ?_
  refine RD.done (by kernel_rfl) (RC.back ?_)
  refine RC.done (rs := [.tmp 0]) (vs := [_]) rfl rfl ⟨rfl, trivial⟩ ?_
  -- end 1
  exact ⟨S, _, rfl, hb_1⟩
structure OpT where
  box : Int
  kind : Int
  a : Int
  b : Int
  deriving DecidableEq
def OpT.cells (o : OpT) : List Value := [.int .i64 o.box, .int .i64 o.kind, .int .i64 o.a, .int .i64 o.b]
def OpT.ok (o : OpT) : Prop := I64 o.box ∧ I64 o.kind ∧ I64 o.a ∧ I64 o.b
def hasAP (box kind : Int) : Prop := (kind = 1 ∧ ¬ box = 4) ∨ (¬ kind = 1 ∧ (kind = 3 ∨ kind = 5) ∧ ((kind = 3 ∧ box < 3) ∨ box = 1)) ∨ (¬ kind = 1 ∧ ¬ (kind = 3 ∨ kind = 5) ∧ (kind = 2 ∨ kind = 4))
def hasBP (box kind : Int) : Prop := kind = 2 ∧ ¬ box = 3
def kindP (box kind : Int) : Prop := 1 ≤ box ∧ box ≤ 4 ∧ 1 ≤ kind ∧ kind ≤ 6 ∧ ¬ ((box = 2 ∨ box = 4) ∧ (kind = 4 ∨ kind = 5))
def okP (o : OpT) : Prop := kindP o.box o.kind ∧ -1073741824 ≤ o.a ∧ o.a ≤ 1073741824 ∧ -1073741824 ≤ o.b ∧ o.b ≤ 1073741824 ∧ (hasAP o.box o.kind ∨ o.a = 0) ∧ (hasBP o.box o.kind ∨ o.b = 0)
def readsP (o : OpT) : Prop := okP o ∧ (o.kind = 1 ∨ o.kind = 6 ∨ (o.box = 1 ∧ (o.kind = 4 ∨ o.kind = 5)))
instance (b k : Int) : Decidable (hasAP b k) := by unfold hasAP; infer_instance
instance (b k : Int) : Decidable (hasBP b k) := by unfold hasBP; infer_instance
instance (b k : Int) : Decidable (kindP b k) := by unfold kindP; infer_instance
instance (o : OpT) : Decidable (okP o) := by unfold okP; infer_instance
instance (o : OpT) : Decidable (readsP o) := by unfold readsP; infer_instance
theorem c_hasA (box kind : Int) (w : World) : FC Try.prog 31 [.int .i64 box, .int .i64 kind] w (Val (.bool (decide (hasAP box kind))) w) := by
  refine FC.intro Try.func31 rfl Try.ntmps31 rfl ?_
  have S := Sub.refl w
  refine RC.seq ?_
  refine RC.region rfl ?_
  refine RL.ev (.assign rfl) rfl rfl ?_
  refine RL.nil (RC.back ?_)
  refine RC.seq ?_
  refine RC.seq ?_
  refine RC.region rfl ?_
  refine RL.ev (.move rfl) rfl rfl ?_
  refine RL.ev (.bin rfl rfl rfl) rfl rfl ?_
  refine RL.nil (RC.back ?_)
  refine RC.cond_dec rfl (fun h1 => ?_) (fun h1 => ?_)
  ·
    have h6 : kind = 1 := h1
    refine RC.seq ?_
    refine RC.region rfl ?_
    refine RL.ev (.move rfl) rfl rfl ?_
    refine RL.ev (.bin rfl rfl rfl) rfl rfl ?_
    refine RL.ev (.assign rfl) rfl rfl ?_
    refine RL.nil (RC.back ?_)
    refine RC.done (rs := [.tmp 4]) (vs := [_]) rfl rfl ⟨rfl, trivial⟩ ?_
    -- end 1
    exact ⟨congrArg Value.bool (by (first | exact (decide_eq_true (by (try simp only [hasAP] at *); omega)).symm | exact (decide_eq_false (by (try simp only [hasAP] at *); omega)).symm | exact decide_eq_decide.2 (by (try simp only [hasAP] at *); omega))), S⟩
  ·
    have h6 : ¬ kind = 1 := h1
    refine RC.skip (RC.back ?_)
    refine RC.seq ?_
    refine RC.seq ?_
    refine RC.region rfl ?_
    refine RL.ev (.move rfl) rfl rfl ?_
    refine RL.ev (.bin rfl rfl rfl) rfl rfl ?_
    refine RL.ev (.move rfl) rfl rfl ?_
    refine RL.split 11 rfl (fun h2 => ?_) (fun h2 => ?_)
    ·
      have h11 : kind = 3 := h2
      refine RL.off rfl rfl ?_
      refine RL.off rfl rfl ?_
      refine RL.ev (.pick_t rfl rfl) rfl rfl ?_
      refine RL.nil (RC.back ?_)
      refine RC.cond_t rfl ?_
      refine RC.seq ?_
      refine RC.region rfl ?_
      refine RL.ev (.move rfl) rfl rfl ?_
      refine RL.ev (.bin rfl rfl rfl) rfl rfl ?_
      refine RL.ev (.move rfl) rfl rfl ?_
      refine RL.split 17 rfl (fun h3 => ?_) (fun h3 => ?_)
      ·
        have h17 : kind = 3 := h3
        refine RL.ev (.move rfl) rfl rfl ?_
        refine RL.ev (.bin rfl rfl rfl) rfl rfl ?_
        refine RL.ev (.pick_t rfl rfl) rfl rfl ?_
        refine RL.ev (.move rfl) rfl rfl ?_
        refine RL.split 21 rfl (fun h4 => ?_) (fun h4 => ?_)
        ·
          have h21 := h4
          refine RL.off rfl rfl ?_
          refine RL.off rfl rfl ?_
          refine RL.ev (.pick_t rfl rfl) rfl rfl ?_
          refine RL.ev (.assign rfl) rfl rfl ?_
          refine RL.nil (RC.back ?_)
          refine RC.done (rs := [.tmp 4]) (vs := [_]) rfl rfl ⟨rfl, trivial⟩ ?_
          -- end 2
          exact ⟨congrArg Value.bool (by (first | exact (decide_eq_true (by (try simp only [hasAP] at *); omega)).symm | exact (decide_eq_false (by (try simp only [hasAP] at *); omega)).symm | exact decide_eq_decide.2 (by (try simp only [hasAP] at *); omega))), S⟩
        ·
          have h21 := h4
          refine RL.ev (.move rfl) rfl rfl ?_
          refine RL.ev (.bin rfl rfl rfl) rfl rfl ?_
          refine RL.ev (.pick_f rfl rfl) rfl rfl ?_
          refine RL.ev (.assign rfl) rfl rfl ?_
          refine RL.nil (RC.back ?_)
          refine RC.done (rs := [.tmp 4]) (vs := [_]) rfl rfl ⟨rfl, trivial⟩ ?_
          -- end 3
          exact ⟨congrArg Value.bool (by (first | exact (decide_eq_true (by (try simp only [hasAP] at *); omega)).symm | exact (decide_eq_false (by (try simp only [hasAP] at *); omega)).symm | exact decide_eq_decide.2 (by (try simp only [hasAP] at *); omega))), S⟩
      ·
        have h17 : ¬ kind = 3 := h3
        refine RL.off rfl rfl ?_
        refine RL.off rfl rfl ?_
        refine RL.ev (.pick_f rfl rfl) rfl rfl ?_
        refine RL.ev (.move rfl) rfl rfl ?_
        refine RL.ev (.move rfl) rfl rfl ?_
        refine RL.ev (.bin rfl rfl rfl) rfl rfl ?_
        refine RL.ev (.pick_f rfl rfl) rfl rfl ?_
        refine RL.ev (.assign rfl) rfl rfl ?_
        refine RL.nil (RC.back ?_)
        refine RC.done (rs := [.tmp 4]) (vs := [_]) rfl rfl ⟨rfl, trivial⟩ ?_
        -- end 4
        exact ⟨congrArg Value.bool (by (first | exact (decide_eq_true (by (try simp only [hasAP] at *); omega)).symm | exact (decide_eq_false (by (try simp only [hasAP] at *); omega)).symm | exact decide_eq_decide.2 (by (try simp only [hasAP] at *); omega))), S⟩
    ·
      have h11 : ¬ kind = 3 := h2
      refine RL.ev (.move rfl) rfl rfl ?_
      refine RL.ev (.bin rfl rfl rfl) rfl rfl ?_
      refine RL.ev (.pick_f rfl rfl) rfl rfl ?_
      refine RL.nil (RC.back ?_)
      refine RC.cond_dec rfl (fun h5 => ?_) (fun h5 => ?_)
      ·
        have h14 : kind = 5 := h5
        refine RC.seq ?_
        refine RC.region rfl ?_
        refine RL.ev (.move rfl) rfl rfl ?_
        refine RL.ev (.bin rfl rfl rfl) rfl rfl ?_
        refine RL.ev (.move rfl) rfl rfl ?_
        refine RL.split 17 rfl (fun h6 => ?_) (fun h6 => ?_)
        ·
          have h17 : kind = 3 := h6
          refine RL.ev (.move rfl) rfl rfl ?_
          refine RL.ev (.bin rfl rfl rfl) rfl rfl ?_
          refine RL.ev (.pick_t rfl rfl) rfl rfl ?_
          refine RL.ev (.move rfl) rfl rfl ?_
          refine RL.split 21 rfl (fun h7 => ?_) (fun h7 => ?_)
          ·
            have h21 := h7
            refine RL.off rfl rfl ?_
            refine RL.off rfl rfl ?_
            refine RL.ev (.pick_t rfl rfl) rfl rfl ?_
            refine RL.ev (.assign rfl) rfl rfl ?_
            refine RL.nil (RC.back ?_)
            refine RC.done (rs := [.tmp 4]) (vs := [_]) rfl rfl ⟨rfl, trivial⟩ ?_
            -- end 5
            exact ⟨congrArg Value.bool (by (first | exact (decide_eq_true (by (try simp only [hasAP] at *); omega)).symm | exact (decide_eq_false (by (try simp only [hasAP] at *); omega)).symm | exact decide_eq_decide.2 (by (try simp only [hasAP] at *); omega))), S⟩
          ·
            have h21 := h7
            refine RL.ev (.move rfl) rfl rfl ?_
            refine RL.ev (.bin rfl rfl rfl) rfl rfl ?_
            refine RL.ev (.pick_f rfl rfl) rfl rfl ?_
            refine RL.ev (.assign rfl) rfl rfl ?_
            refine RL.nil (RC.back ?_)
            refine RC.done (rs := [.tmp 4]) (vs := [_]) rfl rfl ⟨rfl, trivial⟩ ?_
            -- end 6
            exact ⟨congrArg Value.bool (by (first | exact (decide_eq_true (by (try simp only [hasAP] at *); omega)).symm | exact (decide_eq_false (by (try simp only [hasAP] at *); omega)).symm | exact decide_eq_decide.2 (by (try simp only [hasAP] at *); omega))), S⟩
        ·
          have h17 : ¬ kind = 3 := h6
          refine RL.off rfl rfl ?_
          refine RL.off rfl rfl ?_
          refine RL.ev (.pick_f rfl rfl) rfl rfl ?_
          refine RL.ev (.move rfl) rfl rfl ?_
          refine RL.ev (.move rfl) rfl rfl ?_
          refine RL.ev (.bin rfl rfl rfl) rfl rfl ?_
          refine RL.ev (.pick_f rfl rfl) rfl rfl ?_
          refine RL.ev (.assign rfl) rfl rfl ?_
          refine RL.nil (RC.back ?_)
          refine RC.done (rs := [.tmp 4]) (vs := [_]) rfl rfl ⟨rfl, trivial⟩ ?_
          -- end 7
          exact ⟨congrArg Value.bool (by (first | exact (decide_eq_true (by (try simp only [hasAP] at *); omega)).symm | exact (decide_eq_false (by (try simp only [hasAP] at *); omega)).symm | exact decide_eq_decide.2 (by (try simp only [hasAP] at *); omega))), S⟩
      ·
        have h14 : ¬ kind = 5 := h5
        refine RC.skip (RC.back ?_)
        refine RC.seq ?_
        refine RC.region rfl ?_
        refine RL.ev (.move rfl) rfl rfl ?_
        refine RL.ev (.bin rfl rfl rfl) rfl rfl ?_
        refine RL.ev (.move rfl) rfl rfl ?_
        refine RL.split 27 rfl (fun h8 => ?_) (fun h8 => ?_)
        ·
          have h27 : kind = 2 := h8
          refine RL.off rfl rfl ?_
          refine RL.off rfl rfl ?_
          refine RL.ev (.pick_t rfl rfl) rfl rfl ?_
          refine RL.ev (.assign rfl) rfl rfl ?_
          refine RL.nil (RC.back ?_)
          refine RC.done (rs := [.tmp 4]) (vs := [_]) rfl rfl ⟨rfl, trivial⟩ ?_
          -- end 8
          exact ⟨congrArg Value.bool (by (first | exact (decide_eq_true (by (try simp only [hasAP] at *); omega)).symm | exact (decide_eq_false (by (try simp only [hasAP] at *); omega)).symm | exact decide_eq_decide.2 (by (try simp only [hasAP] at *); omega))), S⟩
        ·
          have h27 : ¬ kind = 2 := h8
          refine RL.ev (.move rfl) rfl rfl ?_
          refine RL.ev (.bin rfl rfl rfl) rfl rfl ?_
          refine RL.ev (.pick_f rfl rfl) rfl rfl ?_
          refine RL.ev (.assign rfl) rfl rfl ?_
          refine RL.nil (RC.back ?_)
          refine RC.done (rs := [.tmp 4]) (vs := [_]) rfl rfl ⟨rfl, trivial⟩ ?_
          -- end 9
          exact ⟨congrArg Value.bool (by (first | exact (decide_eq_true (by (try simp only [hasAP] at *); omega)).symm | exact (decide_eq_false (by (try simp only [hasAP] at *); omega)).symm | exact decide_eq_decide.2 (by (try simp only [hasAP] at *); omega))), S⟩
theorem c_hasB (box kind : Int) (w : World) : FC Try.prog 32 [.int .i64 box, .int .i64 kind] w (Val (.bool (decide (hasBP box kind))) w) := by
  refine FC.intro Try.func32 rfl Try.ntmps32 rfl ?_
  have S := Sub.refl w
  refine RC.seq ?_
  refine RC.region rfl ?_
  refine RL.ev (.assign rfl) rfl rfl ?_
  refine RL.nil (RC.back ?_)
  refine RC.seq ?_
  refine RC.region rfl ?_
  refine RL.ev (.move rfl) rfl rfl ?_
  refine RL.ev (.bin rfl rfl rfl) rfl rfl ?_
  refine RL.ev (.move rfl) rfl rfl ?_
  refine RL.split 7 rfl (fun h1 => ?_) (fun h1 => ?_)
  ·
    have h7 : kind = 2 := h1
    refine RL.ev (.move rfl) rfl rfl ?_
    refine RL.ev (.bin rfl rfl rfl) rfl rfl ?_
    refine RL.ev (.pick_t rfl rfl) rfl rfl ?_
    refine RL.ev (.assign rfl) rfl rfl ?_
    refine RL.nil (RC.back ?_)
    refine RC.done (rs := [.tmp 4]) (vs := [_]) rfl rfl ⟨rfl, trivial⟩ ?_
    -- end 1
    exact ⟨congrArg Value.bool (by (first | exact (decide_eq_true (by (try simp only [hasBP] at *); omega)).symm | exact (decide_eq_false (by (try simp only [hasBP] at *); omega)).symm | exact decide_eq_decide.2 (by (try simp only [hasBP] at *); omega))), S⟩
  ·
    have h7 : ¬ kind = 2 := h1
    refine RL.off rfl rfl ?_
    refine RL.off rfl rfl ?_
    refine RL.ev (.pick_f rfl rfl) rfl rfl ?_
    refine RL.ev (.assign rfl) rfl rfl ?_
    refine RL.nil (RC.back ?_)
    refine RC.done (rs := [.tmp 4]) (vs := [_]) rfl rfl ⟨rfl, trivial⟩ ?_
    -- end 2
    exact ⟨congrArg Value.bool (by (first | exact (decide_eq_true (by (try simp only [hasBP] at *); omega)).symm | exact (decide_eq_false (by (try simp only [hasBP] at *); omega)).symm | exact decide_eq_decide.2 (by (try simp only [hasBP] at *); omega))), S⟩
theorem c_within (a : Int) (w : World) : FC Try.prog 49 [.int .i64 a] w (Val (.bool (decide (-1073741824 ≤ a ∧ a ≤ 1073741824))) w) := by
  refine FC.intro Try.func49 rfl Try.ntmps49 rfl ?_
  have S := Sub.refl w
  refine RC.seq ?_
  refine RC.region rfl ?_
  refine RL.ev (.assign rfl) rfl rfl ?_
  refine RL.nil (RC.back ?_)
  refine RC.seq ?_
  refine RC.region rfl ?_
  refine RL.ev (.move rfl) rfl rfl ?_
  refine RL.ev (.bin rfl rfl rfl) rfl rfl ?_
  refine RL.ev (.move rfl) rfl rfl ?_
  refine RL.split 5 rfl (fun h1 => ?_) (fun h1 => ?_)
  ·
    have h5 := h1
    refine RL.ev (.move rfl) rfl rfl ?_
    refine RL.ev (.bin rfl rfl rfl) rfl rfl ?_
    refine RL.ev (.pick_t rfl rfl) rfl rfl ?_
    refine RL.ev (.assign rfl) rfl rfl ?_
    refine RL.nil (RC.back ?_)
    refine RC.done (rs := [.tmp 2]) (vs := [_]) rfl rfl ⟨rfl, trivial⟩ ?_
    -- end 1
    exact ⟨congrArg Value.bool (by (first | exact (decide_eq_true (by (try simp only [hasBP] at *); omega)).symm | exact (decide_eq_false (by (try simp only [hasBP] at *); omega)).symm | exact decide_eq_decide.2 (by (try simp only [hasBP] at *); omega))), S⟩
  ·
    have h5 := h1
    refine RL.off rfl rfl ?_
    refine RL.off rfl rfl ?_
    refine RL.ev (.pick_f rfl rfl) rfl rfl ?_
    refine RL.ev (.assign rfl) rfl rfl ?_
    refine RL.nil (RC.back ?_)
    refine RC.done (rs := [.tmp 2]) (vs := [_]) rfl rfl ⟨rfl, trivial⟩ ?_
    -- end 2
    exact ⟨congrArg Value.bool (by (first | exact (decide_eq_true (by (try simp only [hasBP] at *); omega)).symm | exact (decide_eq_false (by (try simp only [hasBP] at *); omega)).symm | exact decide_eq_decide.2 (by (try simp only [hasBP] at *); omega))), S⟩
theorem c_ref13Right (o : OpT) (w : World) : FC Try.prog 15 [.agg o.cells.toArray] w (Val (.bool (decide (okP o))) w) := by
  refine FC.intro Try.func15 rfl Try.ntmps15 rfl ?_
  have S := Sub.refl w
  refine RC.seq ?_
  refine RC.region rfl ?_
  refine RL.box rfl rfl rfl (fun b_1 w_1 e_1 z_1 hb_1 s_1 => ?_)
  have ge_1 := S.le e_1
  have S := S.trans s_1
  have hb_1 : Has w_1 b_1 ([.int .i64 o.box, .int .i64 o.kind, .int .i64 o.a, .int .i64 o.b]) _ := hb_1
  refine RL.ev (.assign rfl) rfl rfl ?_
  refine RL.nil (RC.back ?_)
  refine RC.seq ?_
  refine RC.seq ?_
  refine RC.region rfl ?_
  refine RL.ev (.field0 fo34_0 rfl) rfl rfl ?_
  refine RL.ev (.load1 sh3 rfl (hb_1.cell rfl)) rfl rfl ?_
  refine RL.ev (.bin rfl rfl rfl) rfl rfl ?_
  refine RL.ev (.move rfl) rfl rfl ?_
  refine RL.split 6 rfl (fun h1 => ?_) (fun h1 => ?_)
  ·
    refine RL.off rfl rfl ?_
    refine RL.off rfl rfl ?_
    refine RL.off rfl rfl ?_
    refine RL.ev (.pick_t rfl rfl) rfl rfl ?_
    refine RL.ev (.move rfl) rfl rfl ?_
    refine RL.off rfl rfl ?_
    refine RL.off rfl rfl ?_
    refine RL.off rfl rfl ?_
    refine RL.ev (.pick_t rfl rfl) rfl rfl ?_
    refine RL.ev (.move rfl) rfl rfl ?_
    refine RL.off rfl rfl ?_
    refine RL.off rfl rfl ?_
    refine RL.off rfl rfl ?_
    refine RL.ev (.pick_t rfl rfl) rfl rfl ?_
    refine RL.ev (.move rfl) rfl rfl ?_
    refine RL.off rfl rfl ?_
    refine RL.off rfl rfl ?_
    refine RL.off rfl rfl ?_
    refine RL.off rfl rfl ?_
    refine RL.off rfl rfl ?_
    refine RL.off rfl rfl ?_
    refine RL.off rfl rfl ?_
    refine RL.off rfl rfl ?_
    refine RL.off rfl rfl ?_
    refine RL.off rfl rfl ?_
    refine RL.off rfl rfl ?_
    refine RL.off rfl rfl ?_
    refine RL.off rfl rfl ?_
    refine RL.off rfl rfl ?_
    refine RL.off rfl rfl ?_
    refine RL.off rfl rfl ?_
    refine RL.off rfl rfl ?_
    refine RL.off rfl rfl ?_
    refine RL.ev (.pick_t rfl rfl) rfl rfl ?_
    refine RL.nil (RC.back ?_)
    refine RC.cond_t rfl ?_
    refine RC.seq ?_
    refine RC.region rfl ?_
    refine RL.ev (.assign rfl) rfl rfl ?_
    refine RL.nil (RC.back ?_)
    refine RC.done (rs := [.tmp 2]) (vs := [_]) rfl rfl ⟨rfl, trivial⟩ ?_
    -- end 1
    exact ⟨congrArg Value.bool (by (first | exact (decide_eq_true (by (try simp only [okP, kindP, hasAP, hasBP] at *); omega)).symm | exact (decide_eq_false (by (try simp only [okP, kindP, hasAP, hasBP] at *); omega)).symm | exact decide_eq_decide.2 (by (try simp only [okP, kindP, hasAP, hasBP] at *); omega))), S⟩
  ·
    refine RL.ev (.field0 fo34_0 rfl) rfl rfl ?_
    refine RL.ev (.load1 sh3 rfl (hb_1.cell rfl)) rfl rfl ?_
    refine RL.ev (.bin rfl rfl rfl) rfl rfl ?_
    refine RL.ev (.pick_f rfl rfl) rfl rfl ?_
    refine RL.ev (.move rfl) rfl rfl ?_
    refine RL.split 11 rfl (fun h2 => ?_) (fun h2 => ?_)
    ·
      refine RL.off rfl rfl ?_
      refine RL.off rfl rfl ?_
      refine RL.off rfl rfl ?_
      refine RL.ev (.pick_t rfl rfl) rfl rfl ?_
      refine RL.ev (.move rfl) rfl rfl ?_
      refine RL.off rfl rfl ?_
      refine RL.off rfl rfl ?_
      refine RL.off rfl rfl ?_
      refine RL.ev (.pick_t rfl rfl) rfl rfl ?_
      refine RL.ev (.move rfl) rfl rfl ?_
      refine RL.off rfl rfl ?_
      refine RL.off rfl rfl ?_
      refine RL.off rfl rfl ?_
      refine RL.off rfl rfl ?_
      refine RL.off rfl rfl ?_
      refine RL.off rfl rfl ?_
      refine RL.off rfl rfl ?_
      refine RL.off rfl rfl ?_
      refine RL.off rfl rfl ?_
      refine RL.off rfl rfl ?_
      refine RL.off rfl rfl ?_
      refine RL.off rfl rfl ?_
      refine RL.off rfl rfl ?_
      refine RL.off rfl rfl ?_
      refine RL.off rfl rfl ?_
      refine RL.off rfl rfl ?_
      refine RL.off rfl rfl ?_
      refine RL.off rfl rfl ?_
      refine RL.ev (.pick_t rfl rfl) rfl rfl ?_
      refine RL.nil (RC.back ?_)
      refine RC.cond_t rfl ?_
      refine RC.seq ?_
      refine RC.region rfl ?_
      refine RL.ev (.assign rfl) rfl rfl ?_
      refine RL.nil (RC.back ?_)
      refine RC.done (rs := [.tmp 2]) (vs := [_]) rfl rfl ⟨rfl, trivial⟩ ?_
      -- end 2
      exact ⟨congrArg Value.bool (by (first | exact (decide_eq_true (by (try simp only [okP, kindP, hasAP, hasBP] at *); omega)).symm | exact (decide_eq_false (by (try simp only [okP, kindP, hasAP, hasBP] at *); omega)).symm | exact decide_eq_decide.2 (by (try simp only [okP, kindP, hasAP, hasBP] at *); omega))), S⟩
    ·
      refine RL.ev (.field0 fo34_1 rfl) rfl rfl ?_
      refine RL.ev (.load1 sh3 rfl (hb_1.cell rfl)) rfl rfl ?_
      refine RL.ev (.bin rfl rfl rfl) rfl rfl ?_
      refine RL.ev (.pick_f rfl rfl) rfl rfl ?_
      refine RL.ev (.move rfl) rfl rfl ?_
      refine RL.split 16 rfl (fun h3 => ?_) (fun h3 => ?_)
      ·
        refine RL.off rfl rfl ?_
        refine RL.off rfl rfl ?_
        refine RL.off rfl rfl ?_
        refine RL.ev (.pick_t rfl rfl) rfl rfl ?_
        refine RL.ev (.move rfl) rfl rfl ?_
        refine RL.off rfl rfl ?_
        refine RL.off rfl rfl ?_
        refine RL.off rfl rfl ?_
        refine RL.off rfl rfl ?_
        refine RL.off rfl rfl ?_
        refine RL.off rfl rfl ?_
        refine RL.off rfl rfl ?_
        refine RL.off rfl rfl ?_
        refine RL.off rfl rfl ?_
        refine RL.off rfl rfl ?_
        refine RL.off rfl rfl ?_
        refine RL.off rfl rfl ?_
        refine RL.off rfl rfl ?_
        refine RL.off rfl rfl ?_
        refine RL.off rfl rfl ?_
        refine RL.off rfl rfl ?_
        refine RL.off rfl rfl ?_
        refine RL.off rfl rfl ?_
        refine RL.ev (.pick_t rfl rfl) rfl rfl ?_
        refine RL.nil (RC.back ?_)
        refine RC.cond_t rfl ?_
        refine RC.seq ?_
        refine RC.region rfl ?_
        refine RL.ev (.assign rfl) rfl rfl ?_
        refine RL.nil (RC.back ?_)
        refine RC.done (rs := [.tmp 2]) (vs := [_]) rfl rfl ⟨rfl, trivial⟩ ?_
        -- end 3
        exact ⟨congrArg Value.bool (by (first | exact (decide_eq_true (by (try simp only [okP, kindP, hasAP, hasBP] at *); omega)).symm | exact (decide_eq_false (by (try simp only [okP, kindP, hasAP, hasBP] at *); omega)).symm | exact decide_eq_decide.2 (by (try simp only [okP, kindP, hasAP, hasBP] at *); omega))), S⟩
      ·
        refine RL.ev (.field0 fo34_1 rfl) rfl rfl ?_
        refine RL.ev (.load1 sh3 rfl (hb_1.cell rfl)) rfl rfl ?_
        refine RL.ev (.bin rfl rfl rfl) rfl rfl ?_
        refine RL.ev (.pick_f rfl rfl) rfl rfl ?_
        refine RL.ev (.move rfl) rfl rfl ?_
        refine RL.split 21 rfl (fun h4 => ?_) (fun h4 => ?_)
        ·
          refine RL.off rfl rfl ?_
          refine RL.off rfl rfl ?_
          refine RL.off rfl rfl ?_
          refine RL.off rfl rfl ?_
          refine RL.off rfl rfl ?_
          refine RL.off rfl rfl ?_
          refine RL.off rfl rfl ?_
          refine RL.off rfl rfl ?_
          refine RL.off rfl rfl ?_
          refine RL.off rfl rfl ?_
          refine RL.off rfl rfl ?_
          refine RL.off rfl rfl ?_
          refine RL.off rfl rfl ?_
          refine RL.off rfl rfl ?_
          refine RL.off rfl rfl ?_
          refine RL.off rfl rfl ?_
          refine RL.off rfl rfl ?_
          refine RL.off rfl rfl ?_
          refine RL.ev (.pick_t rfl rfl) rfl rfl ?_
          refine RL.nil (RC.back ?_)
          refine RC.cond_t rfl ?_
          refine RC.seq ?_
          refine RC.region rfl ?_
          refine RL.ev (.assign rfl) rfl rfl ?_
          refine RL.nil (RC.back ?_)
          refine RC.done (rs := [.tmp 2]) (vs := [_]) rfl rfl ⟨rfl, trivial⟩ ?_
          -- end 4
          exact ⟨congrArg Value.bool (by (first | exact (decide_eq_true (by (try simp only [okP, kindP, hasAP, hasBP] at *); omega)).symm | exact (decide_eq_false (by (try simp only [okP, kindP, hasAP, hasBP] at *); omega)).symm | exact decide_eq_decide.2 (by (try simp only [okP, kindP, hasAP, hasBP] at *); omega))), S⟩
        ·
          refine RL.ev (.field0 fo34_0 rfl) rfl rfl ?_
          refine RL.ev (.load1 sh3 rfl (hb_1.cell rfl)) rfl rfl ?_
          refine RL.ev (.bin rfl rfl rfl) rfl rfl ?_
          refine RL.ev (.move rfl) rfl rfl ?_
          refine RL.split 25 rfl (fun h5 => ?_) (fun h5 => ?_)
          ·
            refine RL.off rfl rfl ?_
            refine RL.off rfl rfl ?_
            refine RL.off rfl rfl ?_
            refine RL.ev (.pick_t rfl rfl) rfl rfl ?_
            refine RL.ev (.move rfl) rfl rfl ?_
            refine RL.ev (.field0 fo34_1 rfl) rfl rfl ?_
            refine RL.ev (.load1 sh3 rfl (hb_1.cell rfl)) rfl rfl ?_
            refine RL.ev (.bin rfl rfl rfl) rfl rfl ?_
            refine RL.ev (.move rfl) rfl rfl ?_
            refine RL.split 34 rfl (fun h6 => ?_) (fun h6 => ?_)
            ·
              refine RL.off rfl rfl ?_
              refine RL.off rfl rfl ?_
              refine RL.off rfl rfl ?_
              refine RL.ev (.pick_t rfl rfl) rfl rfl ?_
              refine RL.ev (.pick_t rfl rfl) rfl rfl ?_
              refine RL.ev (.pick_f rfl rfl) rfl rfl ?_
              refine RL.nil (RC.back ?_)
              refine RC.cond_t rfl ?_
              refine RC.seq ?_
              refine RC.region rfl ?_
              refine RL.ev (.assign rfl) rfl rfl ?_
              refine RL.nil (RC.back ?_)
              refine RC.done (rs := [.tmp 2]) (vs := [_]) rfl rfl ⟨rfl, trivial⟩ ?_
              -- end 5
              exact ⟨congrArg Value.bool (by (first | exact (decide_eq_true (by (try simp only [okP, kindP, hasAP, hasBP] at *); omega)).symm | exact (decide_eq_false (by (try simp only [okP, kindP, hasAP, hasBP] at *); omega)).symm | exact decide_eq_decide.2 (by (try simp only [okP, kindP, hasAP, hasBP] at *); omega))), S⟩
            ·
              refine RL.ev (.field0 fo34_1 rfl) rfl rfl ?_
              refine RL.ev (.load1 sh3 rfl (hb_1.cell rfl)) rfl rfl ?_
              refine RL.ev (.bin rfl rfl rfl) rfl rfl ?_
              refine RL.ev (.pick_f rfl rfl) rfl rfl ?_
              refine RL.ev (.pick_t rfl rfl) rfl rfl ?_
              refine RL.ev (.pick_f rfl rfl) rfl rfl ?_
              refine RL.nil (RC.back ?_)
              refine RC.cond_dec rfl (fun h7 => ?_) (fun h7 => ?_)
              ·
                refine RC.seq ?_
                refine RC.region rfl ?_
                refine RL.ev (.assign rfl) rfl rfl ?_
                refine RL.nil (RC.back ?_)
                refine RC.done (rs := [.tmp 2]) (vs := [_]) rfl rfl ⟨rfl, trivial⟩ ?_
                -- end 6
                exact ⟨congrArg Value.bool (by (first | exact (decide_eq_true (by (try simp only [okP, kindP, hasAP, hasBP] at *); omega)).symm | exact (decide_eq_false (by (try simp only [okP, kindP, hasAP, hasBP] at *); omega)).symm | exact decide_eq_decide.2 (by (try simp only [okP, kindP, hasAP, hasBP] at *); omega))), S⟩
              ·
                refine RC.skip (RC.back ?_)
                refine RC.seq ?_
                refine RC.seq ?_
                refine RC.region rfl ?_
                refine RL.ev (.field0 fo34_2 rfl) rfl rfl ?_
                refine RL.ev (.load1 sh2 rfl (hb_1.cell rfl)) rfl rfl ?_
                refine RL.ev (.bin rfl rfl rfl) rfl rfl ?_
                refine RL.ev (.move rfl) rfl rfl ?_
                refine RL.split 44 rfl (fun h8 => ?_) (fun h8 => ?_)
                ·
                  refine RL.off rfl rfl ?_
                  refine RL.off rfl rfl ?_
                  refine RL.off rfl rfl ?_
                  refine RL.ev (.pick_t rfl rfl) rfl rfl ?_
                  refine RL.ev (.move rfl) rfl rfl ?_
                  refine RL.off rfl rfl ?_
                  refine RL.off rfl rfl ?_
                  refine RL.off rfl rfl ?_
                  refine RL.ev (.pick_t rfl rfl) rfl rfl ?_
                  refine RL.ev (.move rfl) rfl rfl ?_
                  refine RL.off rfl rfl ?_
                  refine RL.off rfl rfl ?_
                  refine RL.off rfl rfl ?_
                  refine RL.ev (.pick_t rfl rfl) rfl rfl ?_
                  refine RL.nil (RC.back ?_)
                  refine RC.cond_t rfl ?_
                  refine RC.seq ?_
                  refine RC.region rfl ?_
                  refine RL.ev (.assign rfl) rfl rfl ?_
                  refine RL.nil (RC.back ?_)
                  refine RC.done (rs := [.tmp 2]) (vs := [_]) rfl rfl ⟨rfl, trivial⟩ ?_
                  -- end 7
                  exact ⟨congrArg Value.bool (by (first | exact (decide_eq_true (by (try simp only [okP, kindP, hasAP, hasBP] at *); omega)).symm | exact (decide_eq_false (by (try simp only [okP, kindP, hasAP, hasBP] at *); omega)).symm | exact decide_eq_decide.2 (by (try simp only [okP, kindP, hasAP, hasBP] at *); omega))), S⟩
                ·
                  refine RL.ev (.field0 fo34_2 rfl) rfl rfl ?_
                  refine RL.ev (.load1 sh2 rfl (hb_1.cell rfl)) rfl rfl ?_
                  refine RL.ev (.bin rfl rfl rfl) rfl rfl ?_
                  refine RL.ev (.pick_f rfl rfl) rfl rfl ?_
                  refine RL.ev (.move rfl) rfl rfl ?_
                  refine RL.split 49 rfl (fun h9 => ?_) (fun h9 => ?_)
                  ·
                    refine RL.off rfl rfl ?_
                    refine RL.off rfl rfl ?_
                    refine RL.off rfl rfl ?_
                    refine RL.ev (.pick_t rfl rfl) rfl rfl ?_
                    refine RL.ev (.move rfl) rfl rfl ?_
                    refine RL.off rfl rfl ?_
                    refine RL.off rfl rfl ?_
                    refine RL.off rfl rfl ?_
                    refine RL.ev (.pick_t rfl rfl) rfl rfl ?_
                    refine RL.nil (RC.back ?_)
                    refine RC.cond_t rfl ?_
                    refine RC.seq ?_
                    refine RC.region rfl ?_
                    refine RL.ev (.assign rfl) rfl rfl ?_
                    refine RL.nil (RC.back ?_)
                    refine RC.done (rs := [.tmp 2]) (vs := [_]) rfl rfl ⟨rfl, trivial⟩ ?_
                    -- end 8
                    exact ⟨congrArg Value.bool (by (first | exact (decide_eq_true (by (try simp only [okP, kindP, hasAP, hasBP] at *); omega)).symm | exact (decide_eq_false (by (try simp only [okP, kindP, hasAP, hasBP] at *); omega)).symm | exact decide_eq_decide.2 (by (try simp only [okP, kindP, hasAP, hasBP] at *); omega))), S⟩
                  ·
                    refine RL.ev (.field0 fo34_3 rfl) rfl rfl ?_
                    refine RL.ev (.load1 sh2 rfl (hb_1.cell rfl)) rfl rfl ?_
                    refine RL.ev (.bin rfl rfl rfl) rfl rfl ?_
                    refine RL.ev (.pick_f rfl rfl) rfl rfl ?_
                    refine RL.ev (.move rfl) rfl rfl ?_
                    refine RL.split 54 rfl (fun h10 => ?_) (fun h10 => ?_)
                    ·
                      refine RL.off rfl rfl ?_
                      refine RL.off rfl rfl ?_
                      refine RL.off rfl rfl ?_
                      refine RL.ev (.pick_t rfl rfl) rfl rfl ?_
                      refine RL.nil (RC.back ?_)
                      refine RC.cond_t rfl ?_
                      refine RC.seq ?_
                      refine RC.region rfl ?_
                      refine RL.ev (.assign rfl) rfl rfl ?_
                      refine RL.nil (RC.back ?_)
                      refine RC.done (rs := [.tmp 2]) (vs := [_]) rfl rfl ⟨rfl, trivial⟩ ?_
                      -- end 9
                      exact ⟨congrArg Value.bool (by (first | exact (decide_eq_true (by (try simp only [okP, kindP, hasAP, hasBP] at *); omega)).symm | exact (decide_eq_false (by (try simp only [okP, kindP, hasAP, hasBP] at *); omega)).symm | exact decide_eq_decide.2 (by (try simp only [okP, kindP, hasAP, hasBP] at *); omega))), S⟩
                    ·
                      refine RL.ev (.field0 fo34_3 rfl) rfl rfl ?_
                      refine RL.ev (.load1 sh2 rfl (hb_1.cell rfl)) rfl rfl ?_
                      refine RL.ev (.bin rfl rfl rfl) rfl rfl ?_
                      refine RL.ev (.pick_f rfl rfl) rfl rfl ?_
                      refine RL.nil (RC.back ?_)
                      refine RC.cond_dec rfl (fun h11 => ?_) (fun h11 => ?_)
                      ·
                        refine RC.seq ?_
                        refine RC.region rfl ?_
                        refine RL.ev (.assign rfl) rfl rfl ?_
                        refine RL.nil (RC.back ?_)
                        refine RC.done (rs := [.tmp 2]) (vs := [_]) rfl rfl ⟨rfl, trivial⟩ ?_
                        -- end 10
                        exact ⟨congrArg Value.bool (by (first | exact (decide_eq_true (by (try simp only [okP, kindP, hasAP, hasBP] at *); omega)).symm | exact (decide_eq_false (by (try simp only [okP, kindP, hasAP, hasBP] at *); omega)).symm | exact decide_eq_decide.2 (by (try simp only [okP, kindP, hasAP, hasBP] at *); omega))), S⟩
                      ·
                        refine RC.skip (RC.back ?_)
                        refine RC.seq ?_
                        refine RC.region rfl ?_
                        refine RL.ev (.field0 fo34_0 rfl) rfl rfl ?_
                        refine RL.ev (.load1 sh3 rfl (hb_1.cell rfl)) rfl rfl ?_
                        refine RL.ev (.field0 fo34_1 rfl) rfl rfl ?_
                        refine RL.ev (.load1 sh3 rfl (hb_1.cell rfl)) rfl rfl ?_
                        refine RL.call rfl ok31 (c_hasA o.box o.kind w_1) rfl rfl ?_
                        rintro _ w12 ⟨rfl, s13⟩
                        have S := S.trans s13
                        have hb_1 := hb_1.sub s13
                        refine RL.ev (.move rfl) rfl rfl ?_
                        refine RL.split 64 rfl (fun h14 => ?_) (fun h14 => ?_)
                        ·
                          refine RL.off rfl rfl ?_
                          refine RL.off rfl rfl ?_
                          refine RL.off rfl rfl ?_
                          refine RL.ev (.pick_t rfl rfl) rfl rfl ?_
                          refine RL.ev (.move rfl) rfl rfl ?_
                          refine RL.ev (.field0 fo34_0 rfl) rfl rfl ?_
                          refine RL.ev (.load1 sh3 rfl (hb_1.cell rfl)) rfl rfl ?_
                          refine RL.ev (.field0 fo34_1 rfl) rfl rfl ?_
                          refine RL.ev (.load1 sh3 rfl (hb_1.cell rfl)) rfl rfl ?_
                          refine RL.call rfl ok32 (c_hasB o.box o.kind w12) rfl rfl ?_
                          rintro _ w15 ⟨rfl, s16⟩
                          have S := S.trans s16
                          have hb_1 := hb_1.sub s16
                          refine RL.ev (.move rfl) rfl rfl ?_
                          refine RL.split 75 rfl (fun h17 => ?_) (fun h17 => ?_)
                          ·
                            refine RL.off rfl rfl ?_
                            refine RL.off rfl rfl ?_
                            refine RL.off rfl rfl ?_
                            refine RL.ev (.pick_t rfl rfl) rfl rfl ?_
                            refine RL.ev (.pick_t rfl rfl) rfl rfl ?_
                            refine RL.ev (.assign rfl) rfl rfl ?_
                            refine RL.nil (RC.back ?_)
                            refine RC.done (rs := [.tmp 2]) (vs := [_]) rfl rfl ⟨rfl, trivial⟩ ?_
                            -- end 11
                            exact ⟨congrArg Value.bool (by (first | exact (decide_eq_true (by (try simp only [okP, kindP, hasAP, hasBP] at *); omega)).symm | exact (decide_eq_false (by (try simp only [okP, kindP, hasAP, hasBP] at *); omega)).symm | exact decide_eq_decide.2 (by (try simp only [okP, kindP, hasAP, hasBP] at *); omega))), S⟩
                          ·
                            refine RL.ev (.field0 fo34_3 rfl) rfl rfl ?_
                            refine RL.ev (.load1 sh2 rfl (hb_1.cell rfl)) rfl rfl ?_
                            refine RL.ev (.bin rfl rfl rfl) rfl rfl ?_
                            refine RL.ev (.pick_f rfl rfl) rfl rfl ?_
                            refine RL.ev (.pick_t rfl rfl) rfl rfl ?_
                            refine RL.ev (.assign rfl) rfl rfl ?_
                            refine RL.nil (RC.back ?_)
                            refine RC.done (rs := [.tmp 2]) (vs := [_]) rfl rfl ⟨rfl, trivial⟩ ?_
                            -- end 12
                            exact ⟨congrArg Value.bool (by (first | exact (decide_eq_true (by (try simp only [okP, kindP, hasAP, hasBP] at *); omega)).symm | exact (decide_eq_false (by (try simp only [okP, kindP, hasAP, hasBP] at *); omega)).symm | exact decide_eq_decide.2 (by (try simp only [okP, kindP, hasAP, hasBP] at *); omega))), S⟩
                        ·
                          refine RL.ev (.field0 fo34_2 rfl) rfl rfl ?_
                          refine RL.ev (.load1 sh2 rfl (hb_1.cell rfl)) rfl rfl ?_
                          refine RL.ev (.bin rfl rfl rfl) rfl rfl ?_
                          refine RL.ev (.pick_f rfl rfl) rfl rfl ?_
                          refine RL.ev (.move rfl) rfl rfl ?_
                          refine RL.split 69 rfl (fun h18 => ?_) (fun h18 => ?_)
                          ·
                            refine RL.ev (.field0 fo34_0 rfl) rfl rfl ?_
                            refine RL.ev (.load1 sh3 rfl (hb_1.cell rfl)) rfl rfl ?_
                            refine RL.ev (.field0 fo34_1 rfl) rfl rfl ?_
                            refine RL.ev (.load1 sh3 rfl (hb_1.cell rfl)) rfl rfl ?_
                            refine RL.call rfl ok32 (c_hasB o.box o.kind w12) rfl rfl ?_
                            rintro _ w19 ⟨rfl, s20⟩
                            have S := S.trans s20
                            have hb_1 := hb_1.sub s20
                            refine RL.ev (.move rfl) rfl rfl ?_
                            refine RL.split 75 rfl (fun h21 => ?_) (fun h21 => ?_)
                            ·
                              refine RL.off rfl rfl ?_
                              refine RL.off rfl rfl ?_
                              refine RL.off rfl rfl ?_
                              refine RL.ev (.pick_t rfl rfl) rfl rfl ?_
                              refine RL.ev (.pick_t rfl rfl) rfl rfl ?_
                              refine RL.ev (.assign rfl) rfl rfl ?_
                              refine RL.nil (RC.back ?_)
                              refine RC.done (rs := [.tmp 2]) (vs := [_]) rfl rfl ⟨rfl, trivial⟩ ?_
                              -- end 13
                              exact ⟨congrArg Value.bool (by (first | exact (decide_eq_true (by (try simp only [okP, kindP, hasAP, hasBP] at *); omega)).symm | exact (decide_eq_false (by (try simp only [okP, kindP, hasAP, hasBP] at *); omega)).symm | exact decide_eq_decide.2 (by (try simp only [okP, kindP, hasAP, hasBP] at *); omega))), S⟩
                            ·
                              refine RL.ev (.field0 fo34_3 rfl) rfl rfl ?_
                              refine RL.ev (.load1 sh2 rfl (hb_1.cell rfl)) rfl rfl ?_
                              refine RL.ev (.bin rfl rfl rfl) rfl rfl ?_
                              refine RL.ev (.pick_f rfl rfl) rfl rfl ?_
                              refine RL.ev (.pick_t rfl rfl) rfl rfl ?_
                              refine RL.ev (.assign rfl) rfl rfl ?_
                              refine RL.nil (RC.back ?_)
                              refine RC.done (rs := [.tmp 2]) (vs := [_]) rfl rfl ⟨rfl, trivial⟩ ?_
                              -- end 14
                              exact ⟨congrArg Value.bool (by (first | exact (decide_eq_true (by (try simp only [okP, kindP, hasAP, hasBP] at *); omega)).symm | exact (decide_eq_false (by (try simp only [okP, kindP, hasAP, hasBP] at *); omega)).symm | exact decide_eq_decide.2 (by (try simp only [okP, kindP, hasAP, hasBP] at *); omega))), S⟩
                          ·
                            refine RL.off rfl rfl ?_
                            refine RL.off rfl rfl ?_
                            refine RL.off rfl rfl ?_
                            refine RL.off rfl rfl ?_
                            refine RL.off rfl rfl ?_
                            refine RL.off rfl rfl ?_
                            refine RL.off rfl rfl ?_
                            refine RL.off rfl rfl ?_
                            refine RL.off rfl rfl ?_
                            refine RL.off rfl rfl ?_
                            refine RL.ev (.pick_f rfl rfl) rfl rfl ?_
                            refine RL.ev (.assign rfl) rfl rfl ?_
                            refine RL.nil (RC.back ?_)
                            refine RC.done (rs := [.tmp 2]) (vs := [_]) rfl rfl ⟨rfl, trivial⟩ ?_
                            -- end 15
                            exact ⟨congrArg Value.bool (by (first | exact (decide_eq_true (by (try simp only [okP, kindP, hasAP, hasBP] at *); omega)).symm | exact (decide_eq_false (by (try simp only [okP, kindP, hasAP, hasBP] at *); omega)).symm | exact decide_eq_decide.2 (by (try simp only [okP, kindP, hasAP, hasBP] at *); omega))), S⟩
          ·
            refine RL.ev (.field0 fo34_0 rfl) rfl rfl ?_
            refine RL.ev (.load1 sh3 rfl (hb_1.cell rfl)) rfl rfl ?_
            refine RL.ev (.bin rfl rfl rfl) rfl rfl ?_
            refine RL.ev (.pick_f rfl rfl) rfl rfl ?_
            refine RL.ev (.move rfl) rfl rfl ?_
            refine RL.split 30 rfl (fun h22 => ?_) (fun h22 => ?_)
            ·
              refine RL.ev (.field0 fo34_1 rfl) rfl rfl ?_
              refine RL.ev (.load1 sh3 rfl (hb_1.cell rfl)) rfl rfl ?_
              refine RL.ev (.bin rfl rfl rfl) rfl rfl ?_
              refine RL.ev (.move rfl) rfl rfl ?_
              refine RL.split 34 rfl (fun h23 => ?_) (fun h23 => ?_)
              ·
                refine RL.off rfl rfl ?_
                refine RL.off rfl rfl ?_
                refine RL.off rfl rfl ?_
                refine RL.ev (.pick_t rfl rfl) rfl rfl ?_
                refine RL.ev (.pick_t rfl rfl) rfl rfl ?_
                refine RL.ev (.pick_f rfl rfl) rfl rfl ?_
                refine RL.nil (RC.back ?_)
                refine RC.cond_t rfl ?_
                refine RC.seq ?_
                refine RC.region rfl ?_
                refine RL.ev (.assign rfl) rfl rfl ?_
                refine RL.nil (RC.back ?_)
                refine RC.done (rs := [.tmp 2]) (vs := [_]) rfl rfl ⟨rfl, trivial⟩ ?_
                -- end 16
                exact ⟨congrArg Value.bool (by (first | exact (decide_eq_true (by (try simp only [okP, kindP, hasAP, hasBP] at *); omega)).symm | exact (decide_eq_false (by (try simp only [okP, kindP, hasAP, hasBP] at *); omega)).symm | exact decide_eq_decide.2 (by (try simp only [okP, kindP, hasAP, hasBP] at *); omega))), S⟩
              ·
                refine RL.ev (.field0 fo34_1 rfl) rfl rfl ?_
                refine RL.ev (.load1 sh3 rfl (hb_1.cell rfl)) rfl rfl ?_
                refine RL.ev (.bin rfl rfl rfl) rfl rfl ?_
                refine RL.ev (.pick_f rfl rfl) rfl rfl ?_
                refine RL.ev (.pick_t rfl rfl) rfl rfl ?_
                refine RL.ev (.pick_f rfl rfl) rfl rfl ?_
                refine RL.nil (RC.back ?_)
                refine RC.cond_dec rfl (fun h24 => ?_) (fun h24 => ?_)
                ·
                  refine RC.seq ?_
                  refine RC.region rfl ?_
                  refine RL.ev (.assign rfl) rfl rfl ?_
                  refine RL.nil (RC.back ?_)
                  refine RC.done (rs := [.tmp 2]) (vs := [_]) rfl rfl ⟨rfl, trivial⟩ ?_
                  -- end 17
                  exact ⟨congrArg Value.bool (by (first | exact (decide_eq_true (by (try simp only [okP, kindP, hasAP, hasBP] at *); omega)).symm | exact (decide_eq_false (by (try simp only [okP, kindP, hasAP, hasBP] at *); omega)).symm | exact decide_eq_decide.2 (by (try simp only [okP, kindP, hasAP, hasBP] at *); omega))), S⟩
                ·
                  refine RC.skip (RC.back ?_)
                  refine RC.seq ?_
                  refine RC.seq ?_
                  refine RC.region rfl ?_
                  refine RL.ev (.field0 fo34_2 rfl) rfl rfl ?_
                  refine RL.ev (.load1 sh2 rfl (hb_1.cell rfl)) rfl rfl ?_
                  refine RL.ev (.bin rfl rfl rfl) rfl rfl ?_
                  refine RL.ev (.move rfl) rfl rfl ?_
                  refine RL.split 44 rfl (fun h25 => ?_) (fun h25 => ?_)
                  ·
                    refine RL.off rfl rfl ?_
                    refine RL.off rfl rfl ?_
                    refine RL.off rfl rfl ?_
                    refine RL.ev (.pick_t rfl rfl) rfl rfl ?_
                    refine RL.ev (.move rfl) rfl rfl ?_
                    refine RL.off rfl rfl ?_
                    refine RL.off rfl rfl ?_
                    refine RL.off rfl rfl ?_
                    refine RL.ev (.pick_t rfl rfl) rfl rfl ?_
                    refine RL.ev (.move rfl) rfl rfl ?_
                    refine RL.off rfl rfl ?_
                    refine RL.off rfl rfl ?_
                    refine RL.off rfl rfl ?_
                    refine RL.ev (.pick_t rfl rfl) rfl rfl ?_
                    refine RL.nil (RC.back ?_)
                    refine RC.cond_t rfl ?_
                    refine RC.seq ?_
                    refine RC.region rfl ?_
                    refine RL.ev (.assign rfl) rfl rfl ?_
                    refine RL.nil (RC.back ?_)
                    refine RC.done (rs := [.tmp 2]) (vs := [_]) rfl rfl ⟨rfl, trivial⟩ ?_
                    -- end 18
                    exact ⟨congrArg Value.bool (by (first | exact (decide_eq_true (by (try simp only [okP, kindP, hasAP, hasBP] at *); omega)).symm | exact (decide_eq_false (by (try simp only [okP, kindP, hasAP, hasBP] at *); omega)).symm | exact decide_eq_decide.2 (by (try simp only [okP, kindP, hasAP, hasBP] at *); omega))), S⟩
                  ·
                    refine RL.ev (.field0 fo34_2 rfl) rfl rfl ?_
                    refine RL.ev (.load1 sh2 rfl (hb_1.cell rfl)) rfl rfl ?_
                    refine RL.ev (.bin rfl rfl rfl) rfl rfl ?_
                    refine RL.ev (.pick_f rfl rfl) rfl rfl ?_
                    refine RL.ev (.move rfl) rfl rfl ?_
                    refine RL.split 49 rfl (fun h26 => ?_) (fun h26 => ?_)
                    ·
                      refine RL.off rfl rfl ?_
                      refine RL.off rfl rfl ?_
                      refine RL.off rfl rfl ?_
                      refine RL.ev (.pick_t rfl rfl) rfl rfl ?_
                      refine RL.ev (.move rfl) rfl rfl ?_
                      refine RL.off rfl rfl ?_
                      refine RL.off rfl rfl ?_
                      refine RL.off rfl rfl ?_
                      refine RL.ev (.pick_t rfl rfl) rfl rfl ?_
                      refine RL.nil (RC.back ?_)
                      refine RC.cond_t rfl ?_
                      refine RC.seq ?_
                      refine RC.region rfl ?_
                      refine RL.ev (.assign rfl) rfl rfl ?_
                      refine RL.nil (RC.back ?_)
                      refine RC.done (rs := [.tmp 2]) (vs := [_]) rfl rfl ⟨rfl, trivial⟩ ?_
                      -- end 19
                      exact ⟨congrArg Value.bool (by (first | exact (decide_eq_true (by (try simp only [okP, kindP, hasAP, hasBP] at *); omega)).symm | exact (decide_eq_false (by (try simp only [okP, kindP, hasAP, hasBP] at *); omega)).symm | exact decide_eq_decide.2 (by (try simp only [okP, kindP, hasAP, hasBP] at *); omega))), S⟩
                    ·
                      refine RL.ev (.field0 fo34_3 rfl) rfl rfl ?_
                      refine RL.ev (.load1 sh2 rfl (hb_1.cell rfl)) rfl rfl ?_
                      refine RL.ev (.bin rfl rfl rfl) rfl rfl ?_
                      refine RL.ev (.pick_f rfl rfl) rfl rfl ?_
                      refine RL.ev (.move rfl) rfl rfl ?_
                      refine RL.split 54 rfl (fun h27 => ?_) (fun h27 => ?_)
                      ·
                        refine RL.off rfl rfl ?_
                        refine RL.off rfl rfl ?_
                        refine RL.off rfl rfl ?_
                        refine RL.ev (.pick_t rfl rfl) rfl rfl ?_
                        refine RL.nil (RC.back ?_)
                        refine RC.cond_t rfl ?_
                        refine RC.seq ?_
                        refine RC.region rfl ?_
                        refine RL.ev (.assign rfl) rfl rfl ?_
                        refine RL.nil (RC.back ?_)
                        refine RC.done (rs := [.tmp 2]) (vs := [_]) rfl rfl ⟨rfl, trivial⟩ ?_
                        -- end 20
                        exact ⟨congrArg Value.bool (by (first | exact (decide_eq_true (by (try simp only [okP, kindP, hasAP, hasBP] at *); omega)).symm | exact (decide_eq_false (by (try simp only [okP, kindP, hasAP, hasBP] at *); omega)).symm | exact decide_eq_decide.2 (by (try simp only [okP, kindP, hasAP, hasBP] at *); omega))), S⟩
                      ·
                        refine RL.ev (.field0 fo34_3 rfl) rfl rfl ?_
                        refine RL.ev (.load1 sh2 rfl (hb_1.cell rfl)) rfl rfl ?_
                        refine RL.ev (.bin rfl rfl rfl) rfl rfl ?_
                        refine RL.ev (.pick_f rfl rfl) rfl rfl ?_
                        refine RL.nil (RC.back ?_)
                        refine RC.cond_dec rfl (fun h28 => ?_) (fun h28 => ?_)
                        ·
                          refine RC.seq ?_
                          refine RC.region rfl ?_
                          refine RL.ev (.assign rfl) rfl rfl ?_
                          refine RL.nil (RC.back ?_)
                          refine RC.done (rs := [.tmp 2]) (vs := [_]) rfl rfl ⟨rfl, trivial⟩ ?_
                          -- end 21
                          exact ⟨congrArg Value.bool (by (first | exact (decide_eq_true (by (try simp only [okP, kindP, hasAP, hasBP] at *); omega)).symm | exact (decide_eq_false (by (try simp only [okP, kindP, hasAP, hasBP] at *); omega)).symm | exact decide_eq_decide.2 (by (try simp only [okP, kindP, hasAP, hasBP] at *); omega))), S⟩
                        ·
                          refine RC.skip (RC.back ?_)
                          refine RC.seq ?_
                          refine RC.region rfl ?_
                          refine RL.ev (.field0 fo34_0 rfl) rfl rfl ?_
                          refine RL.ev (.load1 sh3 rfl (hb_1.cell rfl)) rfl rfl ?_
                          refine RL.ev (.field0 fo34_1 rfl) rfl rfl ?_
                          refine RL.ev (.load1 sh3 rfl (hb_1.cell rfl)) rfl rfl ?_
                          refine RL.call rfl ok31 (c_hasA o.box o.kind w_1) rfl rfl ?_
                          rintro _ w29 ⟨rfl, s30⟩
                          have S := S.trans s30
                          have hb_1 := hb_1.sub s30
                          refine RL.ev (.move rfl) rfl rfl ?_
                          refine RL.split 64 rfl (fun h31 => ?_) (fun h31 => ?_)
                          ·
                            refine RL.off rfl rfl ?_
                            refine RL.off rfl rfl ?_
                            refine RL.off rfl rfl ?_
                            refine RL.ev (.pick_t rfl rfl) rfl rfl ?_
                            refine RL.ev (.move rfl) rfl rfl ?_
                            refine RL.ev (.field0 fo34_0 rfl) rfl rfl ?_
                            refine RL.ev (.load1 sh3 rfl (hb_1.cell rfl)) rfl rfl ?_
                            refine RL.ev (.field0 fo34_1 rfl) rfl rfl ?_
                            refine RL.ev (.load1 sh3 rfl (hb_1.cell rfl)) rfl rfl ?_
                            refine RL.call rfl ok32 (c_hasB o.box o.kind w29) rfl rfl ?_
                            rintro _ w32 ⟨rfl, s33⟩
                            have S := S.trans s33
                            have hb_1 := hb_1.sub s33
                            refine RL.ev (.move rfl) rfl rfl ?_
                            refine RL.split 75 rfl (fun h34 => ?_) (fun h34 => ?_)
                            ·
                              refine RL.off rfl rfl ?_
                              refine RL.off rfl rfl ?_
                              refine RL.off rfl rfl ?_
                              refine RL.ev (.pick_t rfl rfl) rfl rfl ?_
                              refine RL.ev (.pick_t rfl rfl) rfl rfl ?_
                              refine RL.ev (.assign rfl) rfl rfl ?_
                              refine RL.nil (RC.back ?_)
                              refine RC.done (rs := [.tmp 2]) (vs := [_]) rfl rfl ⟨rfl, trivial⟩ ?_
                              -- end 22
                              exact ⟨congrArg Value.bool (by (first | exact (decide_eq_true (by (try simp only [okP, kindP, hasAP, hasBP] at *); omega)).symm | exact (decide_eq_false (by (try simp only [okP, kindP, hasAP, hasBP] at *); omega)).symm | exact decide_eq_decide.2 (by (try simp only [okP, kindP, hasAP, hasBP] at *); omega))), S⟩
                            ·
                              refine RL.ev (.field0 fo34_3 rfl) rfl rfl ?_
                              refine RL.ev (.load1 sh2 rfl (hb_1.cell rfl)) rfl rfl ?_
                              refine RL.ev (.bin rfl rfl rfl) rfl rfl ?_
                              refine RL.ev (.pick_f rfl rfl) rfl rfl ?_
                              refine RL.ev (.pick_t rfl rfl) rfl rfl ?_
                              refine RL.ev (.assign rfl) rfl rfl ?_
                              refine RL.nil (RC.back ?_)
                              refine RC.done (rs := [.tmp 2]) (vs := [_]) rfl rfl ⟨rfl, trivial⟩ ?_
                              -- end 23
                              exact ⟨congrArg Value.bool (by (first | exact (decide_eq_true (by (try simp only [okP, kindP, hasAP, hasBP] at *); omega)).symm | exact (decide_eq_false (by (try simp only [okP, kindP, hasAP, hasBP] at *); omega)).symm | exact decide_eq_decide.2 (by (try simp only [okP, kindP, hasAP, hasBP] at *); omega))), S⟩
                          ·
                            refine RL.ev (.field0 fo34_2 rfl) rfl rfl ?_
                            refine RL.ev (.load1 sh2 rfl (hb_1.cell rfl)) rfl rfl ?_
                            refine RL.ev (.bin rfl rfl rfl) rfl rfl ?_
                            refine RL.ev (.pick_f rfl rfl) rfl rfl ?_
                            refine RL.ev (.move rfl) rfl rfl ?_
                            refine RL.split 69 rfl (fun h35 => ?_) (fun h35 => ?_)
                            ·
                              refine RL.ev (.field0 fo34_0 rfl) rfl rfl ?_
                              refine RL.ev (.load1 sh3 rfl (hb_1.cell rfl)) rfl rfl ?_
                              refine RL.ev (.field0 fo34_1 rfl) rfl rfl ?_
                              refine RL.ev (.load1 sh3 rfl (hb_1.cell rfl)) rfl rfl ?_
                              refine RL.call rfl ok32 (c_hasB o.box o.kind w29) rfl rfl ?_
                              rintro _ w36 ⟨rfl, s37⟩
                              have S := S.trans s37
                              have hb_1 := hb_1.sub s37
                              refine RL.ev (.move rfl) rfl rfl ?_
                              refine RL.split 75 rfl (fun h38 => ?_) (fun h38 => ?_)
                              ·
                                refine RL.off rfl rfl ?_
                                refine RL.off rfl rfl ?_
                                refine RL.off rfl rfl ?_
                                refine RL.ev (.pick_t rfl rfl) rfl rfl ?_
                                refine RL.ev (.pick_t rfl rfl) rfl rfl ?_
                                refine RL.ev (.assign rfl) rfl rfl ?_
                                refine RL.nil (RC.back ?_)
                                refine RC.done (rs := [.tmp 2]) (vs := [_]) rfl rfl ⟨rfl, trivial⟩ ?_
                                -- end 24
                                exact ⟨congrArg Value.bool (by (first | exact (decide_eq_true (by (try simp only [okP, kindP, hasAP, hasBP] at *); omega)).symm | exact (decide_eq_false (by (try simp only [okP, kindP, hasAP, hasBP] at *); omega)).symm | exact decide_eq_decide.2 (by (try simp only [okP, kindP, hasAP, hasBP] at *); omega))), S⟩
                              ·
                                refine RL.ev (.field0 fo34_3 rfl) rfl rfl ?_
                                refine RL.ev (.load1 sh2 rfl (hb_1.cell rfl)) rfl rfl ?_
                                refine RL.ev (.bin rfl rfl rfl) rfl rfl ?_
                                refine RL.ev (.pick_f rfl rfl) rfl rfl ?_
                                refine RL.ev (.pick_t rfl rfl) rfl rfl ?_
                                refine RL.ev (.assign rfl) rfl rfl ?_
                                refine RL.nil (RC.back ?_)
                                refine RC.done (rs := [.tmp 2]) (vs := [_]) rfl rfl ⟨rfl, trivial⟩ ?_
                                -- end 25
                                exact ⟨congrArg Value.bool (by (first | exact (decide_eq_true (by (try simp only [okP, kindP, hasAP, hasBP] at *); omega)).symm | exact (decide_eq_false (by (try simp only [okP, kindP, hasAP, hasBP] at *); omega)).symm | exact decide_eq_decide.2 (by (try simp only [okP, kindP, hasAP, hasBP] at *); omega))), S⟩
                            ·
                              refine RL.off rfl rfl ?_
                              refine RL.off rfl rfl ?_
                              refine RL.off rfl rfl ?_
                              refine RL.off rfl rfl ?_
                              refine RL.off rfl rfl ?_
                              refine RL.off rfl rfl ?_
                              refine RL.off rfl rfl ?_
                              refine RL.off rfl rfl ?_
                              refine RL.off rfl rfl ?_
                              refine RL.off rfl rfl ?_
                              refine RL.ev (.pick_f rfl rfl) rfl rfl ?_
                              refine RL.ev (.assign rfl) rfl rfl ?_
                              refine RL.nil (RC.back ?_)
                              refine RC.done (rs := [.tmp 2]) (vs := [_]) rfl rfl ⟨rfl, trivial⟩ ?_
                              -- end 26
                              exact ⟨congrArg Value.bool (by (first | exact (decide_eq_true (by (try simp only [okP, kindP, hasAP, hasBP] at *); omega)).symm | exact (decide_eq_false (by (try simp only [okP, kindP, hasAP, hasBP] at *); omega)).symm | exact decide_eq_decide.2 (by (try simp only [okP, kindP, hasAP, hasBP] at *); omega))), S⟩
            ·
              refine RL.off rfl rfl ?_
              refine RL.off rfl rfl ?_
              refine RL.off rfl rfl ?_
              refine RL.off rfl rfl ?_
              refine RL.off rfl rfl ?_
              refine RL.off rfl rfl ?_
              refine RL.off rfl rfl ?_
              refine RL.off rfl rfl ?_
              refine RL.ev (.pick_f rfl rfl) rfl rfl ?_
              refine RL.ev (.pick_f rfl rfl) rfl rfl ?_
              refine RL.nil (RC.back ?_)
              refine RC.cond_f rfl ?_
              refine RC.skip (RC.back ?_)
              refine RC.seq ?_
              refine RC.seq ?_
              refine RC.region rfl ?_
              refine RL.ev (.field0 fo34_2 rfl) rfl rfl ?_
              refine RL.ev (.load1 sh2 rfl (hb_1.cell rfl)) rfl rfl ?_
              refine RL.ev (.bin rfl rfl rfl) rfl rfl ?_
              refine RL.ev (.move rfl) rfl rfl ?_
              refine RL.split 44 rfl (fun h39 => ?_) (fun h39 => ?_)
              ·
                refine RL.off rfl rfl ?_
                refine RL.off rfl rfl ?_
                refine RL.off rfl rfl ?_
                refine RL.ev (.pick_t rfl rfl) rfl rfl ?_
                refine RL.ev (.move rfl) rfl rfl ?_
                refine RL.off rfl rfl ?_
                refine RL.off rfl rfl ?_
                refine RL.off rfl rfl ?_
                refine RL.ev (.pick_t rfl rfl) rfl rfl ?_
                refine RL.ev (.move rfl) rfl rfl ?_
                refine RL.off rfl rfl ?_
                refine RL.off rfl rfl ?_
                refine RL.off rfl rfl ?_
                refine RL.ev (.pick_t rfl rfl) rfl rfl ?_
                refine RL.nil (RC.back ?_)
                refine RC.cond_t rfl ?_
                refine RC.seq ?_
                refine RC.region rfl ?_
                refine RL.ev (.assign rfl) rfl rfl ?_
                refine RL.nil (RC.back ?_)
                refine RC.done (rs := [.tmp 2]) (vs := [_]) rfl rfl ⟨rfl, trivial⟩ ?_
                -- end 27
                exact ⟨congrArg Value.bool (by (first | exact (decide_eq_true (by (try simp only [okP, kindP, hasAP, hasBP] at *); omega)).symm | exact (decide_eq_false (by (try simp only [okP, kindP, hasAP, hasBP] at *); omega)).symm | exact decide_eq_decide.2 (by (try simp only [okP, kindP, hasAP, hasBP] at *); omega))), S⟩
              ·
                refine RL.ev (.field0 fo34_2 rfl) rfl rfl ?_
                refine RL.ev (.load1 sh2 rfl (hb_1.cell rfl)) rfl rfl ?_
                refine RL.ev (.bin rfl rfl rfl) rfl rfl ?_
                refine RL.ev (.pick_f rfl rfl) rfl rfl ?_
                refine RL.ev (.move rfl) rfl rfl ?_
                refine RL.split 49 rfl (fun h40 => ?_) (fun h40 => ?_)
                ·
                  refine RL.off rfl rfl ?_
                  refine RL.off rfl rfl ?_
                  refine RL.off rfl rfl ?_
                  refine RL.ev (.pick_t rfl rfl) rfl rfl ?_
                  refine RL.ev (.move rfl) rfl rfl ?_
                  refine RL.off rfl rfl ?_
                  refine RL.off rfl rfl ?_
                  refine RL.off rfl rfl ?_
                  refine RL.ev (.pick_t rfl rfl) rfl rfl ?_
                  refine RL.nil (RC.back ?_)
                  refine RC.cond_t rfl ?_
                  refine RC.seq ?_
                  refine RC.region rfl ?_
                  refine RL.ev (.assign rfl) rfl rfl ?_
                  refine RL.nil (RC.back ?_)
                  refine RC.done (rs := [.tmp 2]) (vs := [_]) rfl rfl ⟨rfl, trivial⟩ ?_
                  -- end 28
                  exact ⟨congrArg Value.bool (by (first | exact (decide_eq_true (by (try simp only [okP, kindP, hasAP, hasBP] at *); omega)).symm | exact (decide_eq_false (by (try simp only [okP, kindP, hasAP, hasBP] at *); omega)).symm | exact decide_eq_decide.2 (by (try simp only [okP, kindP, hasAP, hasBP] at *); omega))), S⟩
                ·
                  refine RL.ev (.field0 fo34_3 rfl) rfl rfl ?_
                  refine RL.ev (.load1 sh2 rfl (hb_1.cell rfl)) rfl rfl ?_
                  refine RL.ev (.bin rfl rfl rfl) rfl rfl ?_
                  refine RL.ev (.pick_f rfl rfl) rfl rfl ?_
                  refine RL.ev (.move rfl) rfl rfl ?_
                  refine RL.split 54 rfl (fun h41 => ?_) (fun h41 => ?_)
                  ·
                    refine RL.off rfl rfl ?_
                    refine RL.off rfl rfl ?_
                    refine RL.off rfl rfl ?_
                    refine RL.ev (.pick_t rfl rfl) rfl rfl ?_
                    refine RL.nil (RC.back ?_)
                    refine RC.cond_t rfl ?_
                    refine RC.seq ?_
                    refine RC.region rfl ?_
                    refine RL.ev (.assign rfl) rfl rfl ?_
                    refine RL.nil (RC.back ?_)
                    refine RC.done (rs := [.tmp 2]) (vs := [_]) rfl rfl ⟨rfl, trivial⟩ ?_
                    -- end 29
                    exact ⟨congrArg Value.bool (by (first | exact (decide_eq_true (by (try simp only [okP, kindP, hasAP, hasBP] at *); omega)).symm | exact (decide_eq_false (by (try simp only [okP, kindP, hasAP, hasBP] at *); omega)).symm | exact decide_eq_decide.2 (by (try simp only [okP, kindP, hasAP, hasBP] at *); omega))), S⟩
                  ·
                    refine RL.ev (.field0 fo34_3 rfl) rfl rfl ?_
                    refine RL.ev (.load1 sh2 rfl (hb_1.cell rfl)) rfl rfl ?_
                    refine RL.ev (.bin rfl rfl rfl) rfl rfl ?_
                    refine RL.ev (.pick_f rfl rfl) rfl rfl ?_
                    refine RL.nil (RC.back ?_)
                    refine RC.cond_dec rfl (fun h42 => ?_) (fun h42 => ?_)
                    ·
                      refine RC.seq ?_
                      refine RC.region rfl ?_
                      refine RL.ev (.assign rfl) rfl rfl ?_
                      refine RL.nil (RC.back ?_)
                      refine RC.done (rs := [.tmp 2]) (vs := [_]) rfl rfl ⟨rfl, trivial⟩ ?_
                      -- end 30
                      exact ⟨congrArg Value.bool (by (first | exact (decide_eq_true (by (try simp only [okP, kindP, hasAP, hasBP] at *); omega)).symm | exact (decide_eq_false (by (try simp only [okP, kindP, hasAP, hasBP] at *); omega)).symm | exact decide_eq_decide.2 (by (try simp only [okP, kindP, hasAP, hasBP] at *); omega))), S⟩
                    ·
                      refine RC.skip (RC.back ?_)
                      refine RC.seq ?_
                      refine RC.region rfl ?_
                      refine RL.ev (.field0 fo34_0 rfl) rfl rfl ?_
                      refine RL.ev (.load1 sh3 rfl (hb_1.cell rfl)) rfl rfl ?_
                      refine RL.ev (.field0 fo34_1 rfl) rfl rfl ?_
                      refine RL.ev (.load1 sh3 rfl (hb_1.cell rfl)) rfl rfl ?_
                      refine RL.call rfl ok31 (c_hasA o.box o.kind w_1) rfl rfl ?_
                      rintro _ w43 ⟨rfl, s44⟩
                      have S := S.trans s44
                      have hb_1 := hb_1.sub s44
                      refine RL.ev (.move rfl) rfl rfl ?_
                      refine RL.split 64 rfl (fun h45 => ?_) (fun h45 => ?_)
                      ·
                        refine RL.off rfl rfl ?_
                        refine RL.off rfl rfl ?_
                        refine RL.off rfl rfl ?_
                        refine RL.ev (.pick_t rfl rfl) rfl rfl ?_
                        refine RL.ev (.move rfl) rfl rfl ?_
                        refine RL.ev (.field0 fo34_0 rfl) rfl rfl ?_
                        refine RL.ev (.load1 sh3 rfl (hb_1.cell rfl)) rfl rfl ?_
                        refine RL.ev (.field0 fo34_1 rfl) rfl rfl ?_
                        refine RL.ev (.load1 sh3 rfl (hb_1.cell rfl)) rfl rfl ?_
                        refine RL.call rfl ok32 (c_hasB o.box o.kind w43) rfl rfl ?_
                        rintro _ w46 ⟨rfl, s47⟩
                        have S := S.trans s47
                        have hb_1 := hb_1.sub s47
                        refine RL.ev (.move rfl) rfl rfl ?_
                        refine RL.split 75 rfl (fun h48 => ?_) (fun h48 => ?_)
                        ·
                          refine RL.off rfl rfl ?_
                          refine RL.off rfl rfl ?_
                          refine RL.off rfl rfl ?_
                          refine RL.ev (.pick_t rfl rfl) rfl rfl ?_
                          refine RL.ev (.pick_t rfl rfl) rfl rfl ?_
                          refine RL.ev (.assign rfl) rfl rfl ?_
                          refine RL.nil (RC.back ?_)
                          refine RC.done (rs := [.tmp 2]) (vs := [_]) rfl rfl ⟨rfl, trivial⟩ ?_
                          -- end 31
                          exact ⟨congrArg Value.bool (by (first | exact (decide_eq_true (by (try simp only [okP, kindP, hasAP, hasBP] at *); omega)).symm | exact (decide_eq_false (by (try simp only [okP, kindP, hasAP, hasBP] at *); omega)).symm | exact decide_eq_decide.2 (by (try simp only [okP, kindP, hasAP, hasBP] at *); omega))), S⟩
                        ·
                          refine RL.ev (.field0 fo34_3 rfl) rfl rfl ?_
                          refine RL.ev (.load1 sh2 rfl (hb_1.cell rfl)) rfl rfl ?_
                          refine RL.ev (.bin rfl rfl rfl) rfl rfl ?_
                          refine RL.ev (.pick_f rfl rfl) rfl rfl ?_
                          refine RL.ev (.pick_t rfl rfl) rfl rfl ?_
                          refine RL.ev (.assign rfl) rfl rfl ?_
                          refine RL.nil (RC.back ?_)
                          refine RC.done (rs := [.tmp 2]) (vs := [_]) rfl rfl ⟨rfl, trivial⟩ ?_
                          -- end 32
                          exact ⟨congrArg Value.bool (by (first | exact (decide_eq_true (by (try simp only [okP, kindP, hasAP, hasBP] at *); omega)).symm | exact (decide_eq_false (by (try simp only [okP, kindP, hasAP, hasBP] at *); omega)).symm | exact decide_eq_decide.2 (by (try simp only [okP, kindP, hasAP, hasBP] at *); omega))), S⟩
                      ·
                        refine RL.ev (.field0 fo34_2 rfl) rfl rfl ?_
                        refine RL.ev (.load1 sh2 rfl (hb_1.cell rfl)) rfl rfl ?_
                        refine RL.ev (.bin rfl rfl rfl) rfl rfl ?_
                        refine RL.ev (.pick_f rfl rfl) rfl rfl ?_
                        refine RL.ev (.move rfl) rfl rfl ?_
                        refine RL.split 69 rfl (fun h49 => ?_) (fun h49 => ?_)
                        ·
                          refine RL.ev (.field0 fo34_0 rfl) rfl rfl ?_
                          refine RL.ev (.load1 sh3 rfl (hb_1.cell rfl)) rfl rfl ?_
                          refine RL.ev (.field0 fo34_1 rfl) rfl rfl ?_
                          refine RL.ev (.load1 sh3 rfl (hb_1.cell rfl)) rfl rfl ?_
                          refine RL.call rfl ok32 (c_hasB o.box o.kind w43) rfl rfl ?_
                          rintro _ w50 ⟨rfl, s51⟩
                          have S := S.trans s51
                          have hb_1 := hb_1.sub s51
                          refine RL.ev (.move rfl) rfl rfl ?_
                          refine RL.split 75 rfl (fun h52 => ?_) (fun h52 => ?_)
                          ·
                            refine RL.off rfl rfl ?_
                            refine RL.off rfl rfl ?_
                            refine RL.off rfl rfl ?_
                            refine RL.ev (.pick_t rfl rfl) rfl rfl ?_
                            refine RL.ev (.pick_t rfl rfl) rfl rfl ?_
                            refine RL.ev (.assign rfl) rfl rfl ?_
                            refine RL.nil (RC.back ?_)
                            refine RC.done (rs := [.tmp 2]) (vs := [_]) rfl rfl ⟨rfl, trivial⟩ ?_
                            -- end 33
                            exact ⟨congrArg Value.bool (by (first | exact (decide_eq_true (by (try simp only [okP, kindP, hasAP, hasBP] at *); omega)).symm | exact (decide_eq_false (by (try simp only [okP, kindP, hasAP, hasBP] at *); omega)).symm | exact decide_eq_decide.2 (by (try simp only [okP, kindP, hasAP, hasBP] at *); omega))), S⟩
                          ·
                            refine RL.ev (.field0 fo34_3 rfl) rfl rfl ?_
                            refine RL.ev (.load1 sh2 rfl (hb_1.cell rfl)) rfl rfl ?_
                            refine RL.ev (.bin rfl rfl rfl) rfl rfl ?_
                            refine RL.ev (.pick_f rfl rfl) rfl rfl ?_
                            refine RL.ev (.pick_t rfl rfl) rfl rfl ?_
                            refine RL.ev (.assign rfl) rfl rfl ?_
                            refine RL.nil (RC.back ?_)
                            refine RC.done (rs := [.tmp 2]) (vs := [_]) rfl rfl ⟨rfl, trivial⟩ ?_
                            -- end 34
                            exact ⟨congrArg Value.bool (by (first | exact (decide_eq_true (by (try simp only [okP, kindP, hasAP, hasBP] at *); omega)).symm | exact (decide_eq_false (by (try simp only [okP, kindP, hasAP, hasBP] at *); omega)).symm | exact decide_eq_decide.2 (by (try simp only [okP, kindP, hasAP, hasBP] at *); omega))), S⟩
                        ·
                          refine RL.off rfl rfl ?_
                          refine RL.off rfl rfl ?_
                          refine RL.off rfl rfl ?_
                          refine RL.off rfl rfl ?_
                          refine RL.off rfl rfl ?_
                          refine RL.off rfl rfl ?_
                          refine RL.off rfl rfl ?_
                          refine RL.off rfl rfl ?_
                          refine RL.off rfl rfl ?_
                          refine RL.off rfl rfl ?_
                          refine RL.ev (.pick_f rfl rfl) rfl rfl ?_
                          refine RL.ev (.assign rfl) rfl rfl ?_
                          refine RL.nil (RC.back ?_)
                          refine RC.done (rs := [.tmp 2]) (vs := [_]) rfl rfl ⟨rfl, trivial⟩ ?_
                          -- end 35
                          exact ⟨congrArg Value.bool (by (first | exact (decide_eq_true (by (try simp only [okP, kindP, hasAP, hasBP] at *); omega)).symm | exact (decide_eq_false (by (try simp only [okP, kindP, hasAP, hasBP] at *); omega)).symm | exact decide_eq_decide.2 (by (try simp only [okP, kindP, hasAP, hasBP] at *); omega))), S⟩
theorem c_ref13Reads (o : OpT) (w : World) : FC Try.prog 21 [.agg o.cells.toArray] w (Val (.bool (decide (readsP o))) w) := by
  refine FC.intro Try.func21 rfl Try.ntmps21 rfl ?_
  have S := Sub.refl w
  refine RC.seq ?_
  refine RC.region rfl ?_
  refine RL.box rfl rfl rfl (fun b_1 w_1 e_1 z_1 hb_1 s_1 => ?_)
  have ge_1 := S.le e_1
  have S := S.trans s_1
  have hb_1 : Has w_1 b_1 ([.int .i64 o.box, .int .i64 o.kind, .int .i64 o.a, .int .i64 o.b]) _ := hb_1
  refine RL.ev (.assign rfl) rfl rfl ?_
  refine RL.nil (RC.back ?_)
  refine RC.seq ?_
  refine RC.region rfl ?_
  refine RL.ev (.loadR ([.int .i64 o.box, .int .i64 o.kind, .int .i64 o.a, .int .i64 o.b]) sh34 rfl hb_1.row rfl) rfl rfl ?_
  refine RL.call rfl ok15 (c_ref13Right o w_1) rfl rfl ?_
  rintro _ w1 ⟨rfl, s2⟩
  have S := S.trans s2
  have hb_1 := hb_1.sub s2
  refine RL.ev (.move rfl) rfl rfl ?_
  refine RL.split 5 rfl (fun h3 => ?_) (fun h3 => ?_)
  ·
    refine RL.ev (.field0 fo34_1 rfl) rfl rfl ?_
    refine RL.ev (.load1 sh3 rfl (hb_1.cell rfl)) rfl rfl ?_
    refine RL.ev (.bin rfl rfl rfl) rfl rfl ?_
    refine RL.ev (.move rfl) rfl rfl ?_
    refine RL.split 9 rfl (fun h4 => ?_) (fun h4 => ?_)
    ·
      refine RL.off rfl rfl ?_
      refine RL.off rfl rfl ?_
      refine RL.off rfl rfl ?_
      refine RL.ev (.pick_t rfl rfl) rfl rfl ?_
      refine RL.ev (.move rfl) rfl rfl ?_
      refine RL.off rfl rfl ?_
      refine RL.off rfl rfl ?_
      refine RL.off rfl rfl ?_
      refine RL.off rfl rfl ?_
      refine RL.off rfl rfl ?_
      refine RL.off rfl rfl ?_
      refine RL.off rfl rfl ?_
      refine RL.off rfl rfl ?_
      refine RL.off rfl rfl ?_
      refine RL.off rfl rfl ?_
      refine RL.off rfl rfl ?_
      refine RL.off rfl rfl ?_
      refine RL.off rfl rfl ?_
      refine RL.ev (.pick_t rfl rfl) rfl rfl ?_
      refine RL.ev (.pick_t rfl rfl) rfl rfl ?_
      refine RL.ev (.assign rfl) rfl rfl ?_
      refine RL.nil (RC.back ?_)
      refine RC.done (rs := [.tmp 2]) (vs := [_]) rfl rfl ⟨rfl, trivial⟩ ?_
      -- end 1
      exact ⟨congrArg Value.bool (by (first | exact (decide_eq_true (by (try simp only [readsP, okP, kindP, hasAP, hasBP] at *); omega)).symm | exact (decide_eq_false (by (try simp only [readsP, okP, kindP, hasAP, hasBP] at *); omega)).symm | exact decide_eq_decide.2 (by (try simp only [readsP, okP, kindP, hasAP, hasBP] at *); omega))), S⟩
    ·
      refine RL.ev (.field0 fo34_1 rfl) rfl rfl ?_
      refine RL.ev (.load1 sh3 rfl (hb_1.cell rfl)) rfl rfl ?_
      refine RL.ev (.bin rfl rfl rfl) rfl rfl ?_
      refine RL.ev (.pick_f rfl rfl) rfl rfl ?_
      refine RL.ev (.move rfl) rfl rfl ?_
      refine RL.split 14 rfl (fun h5 => ?_) (fun h5 => ?_)
      ·
        refine RL.off rfl rfl ?_
        refine RL.off rfl rfl ?_
        refine RL.off rfl rfl ?_
        refine RL.off rfl rfl ?_
        refine RL.off rfl rfl ?_
        refine RL.off rfl rfl ?_
        refine RL.off rfl rfl ?_
        refine RL.off rfl rfl ?_
        refine RL.off rfl rfl ?_
        refine RL.off rfl rfl ?_
        refine RL.off rfl rfl ?_
        refine RL.off rfl rfl ?_
        refine RL.off rfl rfl ?_
        refine RL.ev (.pick_t rfl rfl) rfl rfl ?_
        refine RL.ev (.pick_t rfl rfl) rfl rfl ?_
        refine RL.ev (.assign rfl) rfl rfl ?_
        refine RL.nil (RC.back ?_)
        refine RC.done (rs := [.tmp 2]) (vs := [_]) rfl rfl ⟨rfl, trivial⟩ ?_
        -- end 2
        exact ⟨congrArg Value.bool (by (first | exact (decide_eq_true (by (try simp only [readsP, okP, kindP, hasAP, hasBP] at *); omega)).symm | exact (decide_eq_false (by (try simp only [readsP, okP, kindP, hasAP, hasBP] at *); omega)).symm | exact decide_eq_decide.2 (by (try simp only [readsP, okP, kindP, hasAP, hasBP] at *); omega))), S⟩
      ·
        refine RL.ev (.field0 fo34_0 rfl) rfl rfl ?_
        refine RL.ev (.load1 sh3 rfl (hb_1.cell rfl)) rfl rfl ?_
        refine RL.ev (.bin rfl rfl rfl) rfl rfl ?_
        refine RL.ev (.move rfl) rfl rfl ?_
        refine RL.split 18 rfl (fun h6 => ?_) (fun h6 => ?_)
        ·
          refine RL.ev (.field0 fo34_1 rfl) rfl rfl ?_
          refine RL.ev (.load1 sh3 rfl (hb_1.cell rfl)) rfl rfl ?_
          refine RL.ev (.bin rfl rfl rfl) rfl rfl ?_
          refine RL.ev (.move rfl) rfl rfl ?_
          refine RL.split 22 rfl (fun h7 => ?_) (fun h7 => ?_)
          ·
            refine RL.off rfl rfl ?_
            refine RL.off rfl rfl ?_
            refine RL.off rfl rfl ?_
            refine RL.ev (.pick_t rfl rfl) rfl rfl ?_
            refine RL.ev (.pick_t rfl rfl) rfl rfl ?_
            refine RL.ev (.pick_f rfl rfl) rfl rfl ?_
            refine RL.ev (.pick_t rfl rfl) rfl rfl ?_
            refine RL.ev (.assign rfl) rfl rfl ?_
            refine RL.nil (RC.back ?_)
            refine RC.done (rs := [.tmp 2]) (vs := [_]) rfl rfl ⟨rfl, trivial⟩ ?_
            -- end 3
            exact ⟨congrArg Value.bool (by (first | exact (decide_eq_true (by (try simp only [readsP, okP, kindP, hasAP, hasBP] at *); omega)).symm | exact (decide_eq_false (by (try simp only [readsP, okP, kindP, hasAP, hasBP] at *); omega)).symm | exact decide_eq_decide.2 (by (try simp only [readsP, okP, kindP, hasAP, hasBP] at *); omega))), S⟩
          ·
            refine RL.ev (.field0 fo34_1 rfl) rfl rfl ?_
            refine RL.ev (.load1 sh3 rfl (hb_1.cell rfl)) rfl rfl ?_
            refine RL.ev (.bin rfl rfl rfl) rfl rfl ?_
            refine RL.ev (.pick_f rfl rfl) rfl rfl ?_
            refine RL.ev (.pick_t rfl rfl) rfl rfl ?_
            refine RL.ev (.pick_f rfl rfl) rfl rfl ?_
            refine RL.ev (.pick_t rfl rfl) rfl rfl ?_
            refine RL.ev (.assign rfl) rfl rfl ?_
            refine RL.nil (RC.back ?_)
            refine RC.done (rs := [.tmp 2]) (vs := [_]) rfl rfl ⟨rfl, trivial⟩ ?_
            -- end 4
            exact ⟨congrArg Value.bool (by (first | exact (decide_eq_true (by (try simp only [readsP, okP, kindP, hasAP, hasBP] at *); omega)).symm | exact (decide_eq_false (by (try simp only [readsP, okP, kindP, hasAP, hasBP] at *); omega)).symm | exact decide_eq_decide.2 (by (try simp only [readsP, okP, kindP, hasAP, hasBP] at *); omega))), S⟩
        ·
          refine RL.off rfl rfl ?_
          refine RL.off rfl rfl ?_
          refine RL.off rfl rfl ?_
          refine RL.off rfl rfl ?_
          refine RL.off rfl rfl ?_
          refine RL.off rfl rfl ?_
          refine RL.off rfl rfl ?_
          refine RL.off rfl rfl ?_
          refine RL.ev (.pick_f rfl rfl) rfl rfl ?_
          refine RL.ev (.pick_f rfl rfl) rfl rfl ?_
          refine RL.ev (.pick_t rfl rfl) rfl rfl ?_
          refine RL.ev (.assign rfl) rfl rfl ?_
          refine RL.nil (RC.back ?_)
          refine RC.done (rs := [.tmp 2]) (vs := [_]) rfl rfl ⟨rfl, trivial⟩ ?_
          -- end 5
          exact ⟨congrArg Value.bool (by (first | exact (decide_eq_true (by (try simp only [readsP, okP, kindP, hasAP, hasBP] at *); omega)).symm | exact (decide_eq_false (by (try simp only [readsP, okP, kindP, hasAP, hasBP] at *); omega)).symm | exact decide_eq_decide.2 (by (try simp only [readsP, okP, kindP, hasAP, hasBP] at *); omega))), S⟩
  ·
    refine RL.off rfl rfl ?_
    refine RL.off rfl rfl ?_
    refine RL.off rfl rfl ?_
    refine RL.off rfl rfl ?_
    refine RL.off rfl rfl ?_
    refine RL.off rfl rfl ?_
    refine RL.off rfl rfl ?_
    refine RL.off rfl rfl ?_
    refine RL.off rfl rfl ?_
    refine RL.off rfl rfl ?_
    refine RL.off rfl rfl ?_
    refine RL.off rfl rfl ?_
    refine RL.off rfl rfl ?_
    refine RL.off rfl rfl ?_
    refine RL.off rfl rfl ?_
    refine RL.off rfl rfl ?_
    refine RL.off rfl rfl ?_
    refine RL.off rfl rfl ?_
    refine RL.off rfl rfl ?_
    refine RL.off rfl rfl ?_
    refine RL.off rfl rfl ?_
    refine RL.off rfl rfl ?_
    refine RL.off rfl rfl ?_
    refine RL.ev (.pick_f rfl rfl) rfl rfl ?_
    refine RL.ev (.assign rfl) rfl rfl ?_
    refine RL.nil (RC.back ?_)
    refine RC.done (rs := [.tmp 2]) (vs := [_]) rfl rfl ⟨rfl, trivial⟩ ?_
    -- end 6
    exact ⟨congrArg Value.bool (by (first | exact (decide_eq_true (by (try simp only [readsP, okP, kindP, hasAP, hasBP] at *); omega)).symm | exact (decide_eq_false (by (try simp only [readsP, okP, kindP, hasAP, hasBP] at *); omega)).symm | exact decide_eq_decide.2 (by (try simp only [readsP, okP, kindP, hasAP, hasBP] at *); omega))), S⟩
theorem opN_spec (b k : Int) : (kindP b k ∧ ∃ n, opN b k = some (.int .i64 n) ∧ (1 ≤ n ↔ hasAP b k) ∧ (n = 2 ↔ hasBP b k)) ∨ (¬ kindP b k ∧ opN b k = none) := by
  by_cases h : kindP b k
  · refine .inl ⟨h, ?_⟩
    have h' := h
    unfold kindP at h'
    have hb : b = 1 ∨ b = 2 ∨ b = 3 ∨ b = 4 := by omega
    have hk : k = 1 ∨ k = 2 ∨ k = 3 ∨ k = 4 ∨ k = 5 ∨ k = 6 := by omega
    rcases hb with rfl | rfl | rfl | rfl <;> rcases hk with rfl | rfl | rfl | rfl | rfl | rfl <;> first | exact absurd h (by decide) | exact ⟨_, rfl, by decide, by decide⟩
  · refine .inr ⟨h, ?_⟩
    unfold opN
    rw [List.find?_eq_none.2]
    · rfl
    intro e he
    simp only [opT, List.mem_cons, List.not_mem_nil, or_false] at he
    rw [decide_eq_true_iff]
    rintro ⟨rfl, rfl⟩
    rcases he with rfl | rfl | rfl | rfl | rfl | rfl | rfl | rfl | rfl | rfl | rfl | rfl | rfl | rfl | rfl | rfl | rfl | rfl | rfl | rfl <;> exact h (by decide)
theorem opN_get (b k : Int) : ∃ n, (opN b k).getD (.int .i64 0) = .int .i64 n ∧ (opN b k).isSome = decide (kindP b k) ∧ (kindP b k → (1 ≤ n ↔ hasAP b k) ∧ (n = 2 ↔ hasBP b k)) := by
  rcases opN_spec b k with ⟨h1, n, h2, h3, h4⟩ | ⟨h1, h2⟩
  · exact ⟨n, by rw [h2]; rfl, by rw [h2, decide_eq_true h1]; rfl, fun _ => ⟨h3, h4⟩⟩
  · exact ⟨0, by rw [h2]; rfl, by rw [h2, decide_eq_false h1]; rfl, fun h => absurd h h1⟩
theorem c_opRight (o : OpT) (w : World) : FC Try.prog 25 [.agg o.cells.toArray] w (Val (.bool (decide (okP o))) w) := by
  obtain ⟨m, hm1, hm2, hm3⟩ := opN_get o.box o.kind
  refine FC.intro Try.func25 rfl Try.ntmps25 rfl ?_
  have S := Sub.refl w
  refine RC.seq ?_
  refine RC.region rfl ?_
  refine RL.box rfl rfl rfl (fun b_1 w_1 e_1 z_1 hb_1 s_1 => ?_)
  have ge_1 := S.le e_1
  have S := S.trans s_1
  have hb_1 : Has w_1 b_1 ([.int .i64 o.box, .int .i64 o.kind, .int .i64 o.a, .int .i64 o.b]) _ := hb_1
  refine RL.ev (.assign rfl) rfl rfl ?_
  refine RL.nil (RC.back ?_)
  refine RC.seq ?_
  refine RC.drawD (fun k => False) [] w_1.heap.size 12 rfl rfl mxo (fun w1 s2 => ?_)
  have hNN : ∀ k, ((False) ∨ w_1.heap.size ≤ k) → w.heap.size ≤ k := fun k e => e.elim (fun e => e.elim) (fun e => Nat.le_trans S.size e)
  have ent_S := S.size
  have hN0 : ∀ k, w_1.heap.size ≤ k → w.heap.size ≤ k := fun k e => Nat.le_trans S.size e
  have ltD_b_1 := hb_1.lt
  have szD := Nat.le_refl w_1.heap.size
  have S := S.trans s2
  have hb_1 := hb_1.sub s2
  have szD := Nat.le_trans szD s2.size
  refine RD.take 1 rfl (by kernel_rfl) (by kernel_rfl) (by kernel_rfl) (fun w' s' => .field0 fo34_0 rfl) rfl rfl ?_
  refine RD.take 2 rfl (by kernel_rfl) (by kernel_rfl) (by kernel_rfl) (fun w' s' => .load1 sh3 rfl ((hb_1.step s' (fun e => e.elim (fun e => e.elim) (fun e => Nat.not_le.2 ltD_b_1 e))).cell rfl)) rfl rfl ?_
  refine RD.take 3 rfl (by kernel_rfl) (by kernel_rfl) (by kernel_rfl) (fun w' s' => .field0 fo34_1 rfl) rfl rfl ?_
  refine RD.take 4 rfl (by kernel_rfl) (by kernel_rfl) (by kernel_rfl) (fun w' s' => .load1 sh3 rfl ((hb_1.step s' (fun e => e.elim (fun e => e.elim) (fun e => Nat.not_le.2 ltD_b_1 e))).cell rfl)) rfl rfl ?_
  refine RD.take 5 rfl (by kernel_rfl) (by kernel_rfl) (by kernel_rfl) (fun w' s' => .buildS ze79 pl79 rfl rfl) rfl rfl ?_
  refine RD.all [0] (by kernel_rfl) rfl (RDs.cons rfl ?_ (RDs.nil))
  refine RL.call rfl ok48 (c_numbers w1) rfl rfl ?_
  rintro _ w3 ⟨s4, b6, rfl, hb6⟩
  have S := S.trans s4
  have hb_1 := hb_1.sub s4
  have szD := Nat.le_trans szD s4.size
  refine RD.back s4.agr ?_
  refine RD.all [6] (by kernel_rfl) rfl (RDs.cons rfl ?_ (RDs.nil))
  refine RL.ev (.lookupP (a := o.box) (c := o.kind) Try.underlying76 pair79 ze3 rfl rfl hb6) rfl rfl ?_
  refine RD.back (Agr.refl _ _) ?_
  refine RD.take 7 rfl (by kernel_rfl) (by kernel_rfl) (by kernel_rfl) (fun w' s' => .move rfl) rfl rfl ?_
  refine RD.take 8 rfl (by kernel_rfl) (by kernel_rfl) (by kernel_rfl) (fun w' s' => .as (v' := .int .i64 m) (.extract rfl rfl) (by exact hm1)) rfl rfl ?_
  refine RD.take 9 rfl (by kernel_rfl) (by kernel_rfl) (by kernel_rfl) (fun w' s' => .as (v' := .bool (decide (kindP o.box o.kind))) (.extract rfl rfl) (by exact congrArg Value.bool hm2)) rfl rfl ?_
  refine RD.take 10 rfl (by kernel_rfl) (by kernel_rfl) (by kernel_rfl) (fun w' s' => .assign rfl) rfl rfl ?_
  refine RD.take 11 rfl (by kernel_rfl) (by kernel_rfl) (by kernel_rfl) (fun w' s' => .assign rfl) rfl rfl ?_
  refine RD.done (by kernel_rfl) (RC.back ?_)
  refine RC.seq ?_
  refine RC.region rfl ?_
  refine RL.ev (.move rfl) rfl rfl ?_
  refine RL.ev (.move rfl) rfl rfl ?_
  refine RL.split 16 rfl (fun h5 => ?_) (fun h5 => ?_)
  ·
    have h16 : kindP o.box o.kind := h5
    have hm3 := hm3 h16
    refine RL.ev (.field0 fo34_2 rfl) rfl rfl ?_
    refine RL.ev (.load1 sh2 rfl (hb_1.cell rfl)) rfl rfl ?_
    refine RL.call rfl ok49 (c_within o.a w3) rfl rfl ?_
    rintro _ w6 ⟨rfl, s7⟩
    have S := S.trans s7
    have hb_1 := hb_1.sub s7
    refine RL.ev (.pick_t rfl rfl) rfl rfl ?_
    refine RL.ev (.move rfl) rfl rfl ?_
    refine RL.split 21 rfl (fun h8 => ?_) (fun h8 => ?_)
    ·
      refine RL.ev (.field0 fo34_3 rfl) rfl rfl ?_
      refine RL.ev (.load1 sh2 rfl (hb_1.cell rfl)) rfl rfl ?_
      refine RL.call rfl ok49 (c_within o.b w6) rfl rfl ?_
      rintro _ w9 ⟨rfl, s10⟩
      have S := S.trans s10
      have hb_1 := hb_1.sub s10
      refine RL.ev (.pick_t rfl rfl) rfl rfl ?_
      refine RL.ev (.move rfl) rfl rfl ?_
      refine RL.split 26 rfl (fun h11 => ?_) (fun h11 => ?_)
      ·
        refine RL.ev (.move rfl) rfl rfl ?_
        refine RL.ev (.bin rfl rfl rfl) rfl rfl ?_
        refine RL.ev (.move rfl) rfl rfl ?_
        refine RL.split 29 rfl (fun h12 => ?_) (fun h12 => ?_)
        ·
          refine RL.off rfl rfl ?_
          refine RL.off rfl rfl ?_
          refine RL.off rfl rfl ?_
          refine RL.ev (.pick_t rfl rfl) rfl rfl ?_
          refine RL.ev (.pick_t rfl rfl) rfl rfl ?_
          refine RL.ev (.move rfl) rfl rfl ?_
          refine RL.ev (.move rfl) rfl rfl ?_
          refine RL.ev (.bin rfl rfl rfl) rfl rfl ?_
          refine RL.ev (.move rfl) rfl rfl ?_
          refine RL.split 38 rfl (fun h13 => ?_) (fun h13 => ?_)
          ·
            refine RL.off rfl rfl ?_
            refine RL.off rfl rfl ?_
            refine RL.off rfl rfl ?_
            refine RL.ev (.pick_t rfl rfl) rfl rfl ?_
            refine RL.ev (.pick_t rfl rfl) rfl rfl ?_
            refine RL.ev (.assign rfl) rfl rfl ?_
            refine RL.nil (RC.back ?_)
            refine RC.done (rs := [.tmp 2]) (vs := [_]) rfl rfl ⟨rfl, trivial⟩ ?_
            -- end 1
            exact ⟨congrArg Value.bool (by (first | exact (decide_eq_true (by (try simp only [okP, kindP, hasAP, hasBP] at *); omega)).symm | exact (decide_eq_false (by (try simp only [okP, kindP, hasAP, hasBP] at *); omega)).symm | exact decide_eq_decide.2 (by (try simp only [okP, kindP, hasAP, hasBP] at *); omega))), S⟩
          ·
            refine RL.ev (.field0 fo34_3 rfl) rfl rfl ?_
            refine RL.ev (.load1 sh2 rfl (hb_1.cell rfl)) rfl rfl ?_
            refine RL.ev (.bin rfl rfl rfl) rfl rfl ?_
            refine RL.ev (.pick_f rfl rfl) rfl rfl ?_
            refine RL.ev (.pick_t rfl rfl) rfl rfl ?_
            refine RL.ev (.assign rfl) rfl rfl ?_
            refine RL.nil (RC.back ?_)
            refine RC.done (rs := [.tmp 2]) (vs := [_]) rfl rfl ⟨rfl, trivial⟩ ?_
            -- end 2
            exact ⟨congrArg Value.bool (by (first | exact (decide_eq_true (by (try simp only [okP, kindP, hasAP, hasBP] at *); omega)).symm | exact (decide_eq_false (by (try simp only [okP, kindP, hasAP, hasBP] at *); omega)).symm | exact decide_eq_decide.2 (by (try simp only [okP, kindP, hasAP, hasBP] at *); omega))), S⟩
        ·
          refine RL.ev (.field0 fo34_2 rfl) rfl rfl ?_
          refine RL.ev (.load1 sh2 rfl (hb_1.cell rfl)) rfl rfl ?_
          refine RL.ev (.bin rfl rfl rfl) rfl rfl ?_
          refine RL.ev (.pick_f rfl rfl) rfl rfl ?_
          refine RL.ev (.pick_t rfl rfl) rfl rfl ?_
          refine RL.ev (.move rfl) rfl rfl ?_
          refine RL.split 35 rfl (fun h14 => ?_) (fun h14 => ?_)
          ·
            refine RL.ev (.move rfl) rfl rfl ?_
            refine RL.ev (.bin rfl rfl rfl) rfl rfl ?_
            refine RL.ev (.move rfl) rfl rfl ?_
            refine RL.split 38 rfl (fun h15 => ?_) (fun h15 => ?_)
            ·
              refine RL.off rfl rfl ?_
              refine RL.off rfl rfl ?_
              refine RL.off rfl rfl ?_
              refine RL.ev (.pick_t rfl rfl) rfl rfl ?_
              refine RL.ev (.pick_t rfl rfl) rfl rfl ?_
              refine RL.ev (.assign rfl) rfl rfl ?_
              refine RL.nil (RC.back ?_)
              refine RC.done (rs := [.tmp 2]) (vs := [_]) rfl rfl ⟨rfl, trivial⟩ ?_
              -- end 3
              exact ⟨congrArg Value.bool (by (first | exact (decide_eq_true (by (try simp only [okP, kindP, hasAP, hasBP] at *); omega)).symm | exact (decide_eq_false (by (try simp only [okP, kindP, hasAP, hasBP] at *); omega)).symm | exact decide_eq_decide.2 (by (try simp only [okP, kindP, hasAP, hasBP] at *); omega))), S⟩
            ·
              refine RL.ev (.field0 fo34_3 rfl) rfl rfl ?_
              refine RL.ev (.load1 sh2 rfl (hb_1.cell rfl)) rfl rfl ?_
              refine RL.ev (.bin rfl rfl rfl) rfl rfl ?_
              refine RL.ev (.pick_f rfl rfl) rfl rfl ?_
              refine RL.ev (.pick_t rfl rfl) rfl rfl ?_
              refine RL.ev (.assign rfl) rfl rfl ?_
              refine RL.nil (RC.back ?_)
              refine RC.done (rs := [.tmp 2]) (vs := [_]) rfl rfl ⟨rfl, trivial⟩ ?_
              -- end 4
              exact ⟨congrArg Value.bool (by (first | exact (decide_eq_true (by (try simp only [okP, kindP, hasAP, hasBP] at *); omega)).symm | exact (decide_eq_false (by (try simp only [okP, kindP, hasAP, hasBP] at *); omega)).symm | exact decide_eq_decide.2 (by (try simp only [okP, kindP, hasAP, hasBP] at *); omega))), S⟩
          ·
            refine RL.off rfl rfl ?_
            refine RL.off rfl rfl ?_
            refine RL.off rfl rfl ?_
            refine RL.off rfl rfl ?_
            refine RL.off rfl rfl ?_
            refine RL.off rfl rfl ?_
            refine RL.off rfl rfl ?_
            refine RL.ev (.pick_f rfl rfl) rfl rfl ?_
            refine RL.ev (.assign rfl) rfl rfl ?_
            refine RL.nil (RC.back ?_)
            refine RC.done (rs := [.tmp 2]) (vs := [_]) rfl rfl ⟨rfl, trivial⟩ ?_
            -- end 5
            exact ⟨congrArg Value.bool (by (first | exact (decide_eq_true (by (try simp only [okP, kindP, hasAP, hasBP] at *); omega)).symm | exact (decide_eq_false (by (try simp only [okP, kindP, hasAP, hasBP] at *); omega)).symm | exact decide_eq_decide.2 (by (try simp only [okP, kindP, hasAP, hasBP] at *); omega))), S⟩
      ·
        refine RL.off rfl rfl ?_
        refine RL.off rfl rfl ?_
        refine RL.off rfl rfl ?_
        refine RL.off rfl rfl ?_
        refine RL.off rfl rfl ?_
        refine RL.off rfl rfl ?_
        refine RL.off rfl rfl ?_
        refine RL.ev (.pick_f rfl rfl) rfl rfl ?_
        refine RL.ev (.move rfl) rfl rfl ?_
        refine RL.off rfl rfl ?_
        refine RL.off rfl rfl ?_
        refine RL.off rfl rfl ?_
        refine RL.off rfl rfl ?_
        refine RL.off rfl rfl ?_
        refine RL.off rfl rfl ?_
        refine RL.off rfl rfl ?_
        refine RL.ev (.pick_f rfl rfl) rfl rfl ?_
        refine RL.ev (.assign rfl) rfl rfl ?_
        refine RL.nil (RC.back ?_)
        refine RC.done (rs := [.tmp 2]) (vs := [_]) rfl rfl ⟨rfl, trivial⟩ ?_
        -- end 6
        exact ⟨congrArg Value.bool (by (first | exact (decide_eq_true (by (try simp only [okP, kindP, hasAP, hasBP] at *); omega)).symm | exact (decide_eq_false (by (try simp only [okP, kindP, hasAP, hasBP] at *); omega)).symm | exact decide_eq_decide.2 (by (try simp only [okP, kindP, hasAP, hasBP] at *); omega))), S⟩
    ·
      refine RL.off rfl rfl ?_
      refine RL.off rfl rfl ?_
      refine RL.off rfl rfl ?_
      refine RL.ev (.pick_f rfl rfl) rfl rfl ?_
      refine RL.ev (.move rfl) rfl rfl ?_
      refine RL.off rfl rfl ?_
      refine RL.off rfl rfl ?_
      refine RL.off rfl rfl ?_
      refine RL.off rfl rfl ?_
      refine RL.off rfl rfl ?_
      refine RL.off rfl rfl ?_
      refine RL.off rfl rfl ?_
      refine RL.ev (.pick_f rfl rfl) rfl rfl ?_
      refine RL.ev (.move rfl) rfl rfl ?_
      refine RL.off rfl rfl ?_
      refine RL.off rfl rfl ?_
      refine RL.off rfl rfl ?_
      refine RL.off rfl rfl ?_
      refine RL.off rfl rfl ?_
      refine RL.off rfl rfl ?_
      refine RL.off rfl rfl ?_
      refine RL.ev (.pick_f rfl rfl) rfl rfl ?_
      refine RL.ev (.assign rfl) rfl rfl ?_
      refine RL.nil (RC.back ?_)
      refine RC.done (rs := [.tmp 2]) (vs := [_]) rfl rfl ⟨rfl, trivial⟩ ?_
      -- end 7
      exact ⟨congrArg Value.bool (by (first | exact (decide_eq_true (by (try simp only [okP, kindP, hasAP, hasBP] at *); omega)).symm | exact (decide_eq_false (by (try simp only [okP, kindP, hasAP, hasBP] at *); omega)).symm | exact decide_eq_decide.2 (by (try simp only [okP, kindP, hasAP, hasBP] at *); omega))), S⟩
  ·
    have h16 : ¬ kindP o.box o.kind := h5
    refine RL.off rfl rfl ?_
    refine RL.off rfl rfl ?_
    refine RL.off rfl rfl ?_
    refine RL.ev (.pick_f rfl rfl) rfl rfl ?_
    refine RL.ev (.move rfl) rfl rfl ?_
    refine RL.off rfl rfl ?_
    refine RL.off rfl rfl ?_
    refine RL.off rfl rfl ?_
    refine RL.ev (.pick_f rfl rfl) rfl rfl ?_
    refine RL.ev (.move rfl) rfl rfl ?_
    refine RL.off rfl rfl ?_
    refine RL.off rfl rfl ?_
    refine RL.off rfl rfl ?_
    refine RL.off rfl rfl ?_
    refine RL.off rfl rfl ?_
    refine RL.off rfl rfl ?_
    refine RL.off rfl rfl ?_
    refine RL.ev (.pick_f rfl rfl) rfl rfl ?_
    refine RL.ev (.move rfl) rfl rfl ?_
    refine RL.off rfl rfl ?_
    refine RL.off rfl rfl ?_
    refine RL.off rfl rfl ?_
    refine RL.off rfl rfl ?_
    refine RL.off rfl rfl ?_
    refine RL.off rfl rfl ?_
    refine RL.off rfl rfl ?_
    refine RL.ev (.pick_f rfl rfl) rfl rfl ?_
    refine RL.ev (.assign rfl) rfl rfl ?_
    refine RL.nil (RC.back ?_)
    refine RC.done (rs := [.tmp 2]) (vs := [_]) rfl rfl ⟨rfl, trivial⟩ ?_
    -- end 8
    exact ⟨congrArg Value.bool (by (first | exact (decide_eq_true (by (try simp only [okP, kindP, hasAP, hasBP] at *); omega)).symm | exact (decide_eq_false (by (try simp only [okP, kindP, hasAP, hasBP] at *); omega)).symm | exact decide_eq_decide.2 (by (try simp only [okP, kindP, hasAP, hasBP] at *); omega))), S⟩
end Go.Proofs.Ytjafbffehmombaa
