/-
  What the law ModelReads leans on, part 2.
-/
import Derived.Test.YtfkanamdlndkfaaPModelReads1
set_option linter.unusedVariables false
set_option linter.unusedSimpArgs false
namespace Go.Proofs.Ytfkanamdlndkfaa
open Go Go.XL
def fieldAt (P : Program) (t : TypeId) (i : Nat) : Field := match P.underlying t with
  | some (.struct fs) => fs[i]!
  | _ => default
theorem pair58 : PairT Try.prog 58 (fieldAt Try.prog 58 0) (fieldAt Try.prog 58 1) :=
  ⟨by kernel_rfl, by kernel_rfl, by kernel_rfl, by kernel_rfl, by kernel_rfl, by kernel_rfl, by kernel_rfl, by kernel_rfl, by kernel_rfl⟩
def opT : List LE := [⟨2, 1, 1, .int .i64 1⟩, ⟨4, 1, 2, .int .i64 2⟩, ⟨6, 1, 3, .int .i64 1⟩, ⟨8, 1, 4, .int .i64 1⟩, ⟨10, 1, 5, .int .i64 1⟩, ⟨12, 1, 6, .int .i64 0⟩, ⟨14, 2, 1, .int .i64 1⟩, ⟨16, 2, 2, .int .i64 2⟩, ⟨18, 2, 3, .int .i64 1⟩, ⟨20, 2, 6, .int .i64 0⟩, ⟨22, 3, 1, .int .i64 1⟩, ⟨24, 3, 2, .int .i64 1⟩, ⟨26, 3, 3, .int .i64 0⟩, ⟨28, 3, 4, .int .i64 1⟩, ⟨30, 3, 5, .int .i64 0⟩, ⟨32, 3, 6, .int .i64 0⟩, ⟨34, 4, 1, .int .i64 0⟩, ⟨36, 4, 2, .int .i64 2⟩, ⟨38, 4, 3, .int .i64 0⟩, ⟨40, 4, 6, .int .i64 0⟩]
def opN (box kind : Int) : Option Value := (opT.find? fun e => decide (e.a = box ∧ e.c = kind)).map (·.v)
theorem c_numbers (w : World) : FC Try.prog 23 [] w (fun v w' => Sub w w' ∧ ∃ b, v = .map (some b) ∧ HasP w' b opN) := by
 refine FC.intro Try.func23 rfl Try.ntmps23 rfl ?_
 have S := Sub.refl w
 refine RC.seq (RC.region rfl ?_);refine RL.asS rfl ?_;refine RL.nil (RC.back (RC.seq ?_));refine RC.drawD (fun k => False) [] w.heap.size 43 rfl rfl mxo (fun w1 s2 => ?_)
 have hNN : ∀ k, ((False) ∨ w.heap.size ≤ k) → w.heap.size ≤ k := fun k e => e.elim (fun e => e.elim) (fun e => Nat.le_trans S.size e)
 have hN0 : ∀ k, w.heap.size ≤ k → w.heap.size ≤ k := fun k e => Nat.le_trans S.size e
 have szD := Nat.le_refl w.heap.size;have S := S.trans s2;have szD := Nat.le_trans szD s2.size;refine RD.tS 1 rfl (fun w' s' => .buildS ze58 pl58 rfl rfl) ?_;refine RD.tS 3 rfl (fun w' s' => .buildS ze58 pl58 rfl rfl) ?_;refine RD.tS 5 rfl (fun w' s' => .buildS ze58 pl58 rfl rfl) ?_;refine RD.tS 7 rfl (fun w' s' => .buildS ze58 pl58 rfl rfl) ?_;refine RD.tS 9 rfl (fun w' s' => .buildS ze58 pl58 rfl rfl) ?_;refine RD.tS 11 rfl (fun w' s' => .buildS ze58 pl58 rfl rfl) ?_;refine RD.tS 13 rfl (fun w' s' => .buildS ze58 pl58 rfl rfl) ?_;refine RD.tS 15 rfl (fun w' s' => .buildS ze58 pl58 rfl rfl) ?_;refine RD.tS 17 rfl (fun w' s' => .buildS ze58 pl58 rfl rfl) ?_;refine RD.tS 19 rfl (fun w' s' => .buildS ze58 pl58 rfl rfl) ?_;refine RD.tS 21 rfl (fun w' s' => .buildS ze58 pl58 rfl rfl) ?_;refine RD.tS 23 rfl (fun w' s' => .buildS ze58 pl58 rfl rfl) ?_;refine RD.tS 25 rfl (fun w' s' => .buildS ze58 pl58 rfl rfl) ?_;refine RD.tS 27 rfl (fun w' s' => .buildS ze58 pl58 rfl rfl) ?_;refine RD.tS 29 rfl (fun w' s' => .buildS ze58 pl58 rfl rfl) ?_;refine RD.tS 31 rfl (fun w' s' => .buildS ze58 pl58 rfl rfl) ?_;refine RD.tS 33 rfl (fun w' s' => .buildS ze58 pl58 rfl rfl) ?_;refine RD.tS 35 rfl (fun w' s' => .buildS ze58 pl58 rfl rfl) ?_;refine RD.tS 37 rfl (fun w' s' => .buildS ze58 pl58 rfl rfl) ?_;refine RD.tS 39 rfl (fun w' s' => .buildS ze58 pl58 rfl rfl) ?_;refine RD.oneS 0 rfl ?_;refine RL.makeMapP rfl rfl (fun b_1 w_1 e_1 z_1 hb_1 s_1 => ?_)
 have fr_b_1 : w.heap.size ≤ b_1 := by rw [e_1]; exact szD
 have ge_1 := S.le e_1;have S := S.trans s_1;refine RD.back s_1.agr ?_;refine RD.lits opT _ 2 rfl Try.underlying55 pair58 (by intro e he; simp only [opT, List.mem_cons, List.not_mem_nil, or_false] at he; rcases he with rfl | rfl | rfl | rfl | rfl | rfl | rfl | rfl | rfl | rfl | rfl | rfl | rfl | rfl | rfl | rfl | rfl | rfl | rfl | rfl <;> exact ⟨_, _, _, _, _, _, rfl, rfl, rfl, rfl, by kernel_rfl⟩) (by decide) (by decide) (by kernel_rfl) (by kernel_rfl) (by simp [opT]) hb_1 fr_b_1 (fun w3 hb_1 a3 => ?_);have S := S.upd a3 ge_1;refine RD.tS 41 rfl (fun w' s' => .move rfl) ?_;refine RD.tS 42 rfl (fun w' s' => .assign rfl) ?_;refine RD.done (by kernel_rfl) (RC.back ?_);refine RC.d1 0 rfl rfl rfl ?_
 exact ⟨S, _, rfl, hb_1⟩
structure OpT where
  box : Int
  kind : Int
  a : Int
  b : Int
  deriving DecidableEq
def OpT.cells (o : OpT) : List Value := [.int .i64 o.box, .int .i64 o.kind, .int .i64 o.a, .int .i64 o.b]
def OpT.ok (o : OpT) : Prop := I64 o.box ∧ I64 o.kind ∧ I64 o.a ∧ I64 o.b
def hasAP (box kind : Int) : Prop := (kind = 1 ∧ ¬ box = 4) ∨ (¬ kind = 1 ∧ (kind = 3 ∨ kind = 5) ∧ ((kind = 3 ∧ box < 3) ∨ box = 1)) ∨ (¬ kind = 1 ∧ ¬ (kind = 3 ∨ kind = 5) ∧ (kind = 2 ∨ kind = 4))
def hasBP (box kind : Int) : Prop := kind = 2 ∧ ¬ box = 3
def kindP (box kind : Int) : Prop := 1 ≤ box ∧ box ≤ 4 ∧ 1 ≤ kind ∧ kind ≤ 6 ∧ ¬ ((box = 2 ∨ box = 4) ∧ (kind = 4 ∨ kind = 5))
def okP (o : OpT) : Prop := kindP o.box o.kind ∧ -1073741824 ≤ o.a ∧ o.a ≤ 1073741824 ∧ -1073741824 ≤ o.b ∧ o.b ≤ 1073741824 ∧ (hasAP o.box o.kind ∨ o.a = 0) ∧ (hasBP o.box o.kind ∨ o.b = 0)
def readsP (o : OpT) : Prop := okP o ∧ (o.kind = 1 ∨ o.kind = 6 ∨ (o.box = 1 ∧ (o.kind = 4 ∨ o.kind = 5)))
instance (b k : Int) : Decidable (hasAP b k) := by unfold hasAP; infer_instance
instance (b k : Int) : Decidable (hasBP b k) := by unfold hasBP; infer_instance
instance (b k : Int) : Decidable (kindP b k) := by unfold kindP; infer_instance
instance (o : OpT) : Decidable (okP o) := by unfold okP; infer_instance
instance (o : OpT) : Decidable (readsP o) := by unfold readsP; infer_instance
theorem c_hasA (box kind : Int) (w : World) : FC Try.prog 28 [.int .i64 box, .int .i64 kind] w (Val (.bool (decide (hasAP box kind))) w) := by
 refine FC.intro Try.func28 rfl Try.ntmps28 rfl ?_
 have S := Sub.refl w
 refine RC.seq (RC.region rfl ?_);refine RL.asS rfl ?_;refine RL.nil (RC.back (RC.seq (RC.seq (RC.region rfl ?_))));refine RL.mvS rfl ?_;refine RL.eS (.bin rfl rfl rfl) ?_;refine RL.nil (RC.back ?_);refine RC.cond_dec rfl (fun h1 => ?_) (fun h1 => ?_)
 ·
  have h6 : kind = 1 := h1
  refine RC.seq (RC.region rfl ?_);refine RL.mvS rfl ?_;refine RL.eS (.bin rfl rfl rfl) ?_;refine RL.asS rfl ?_;refine RL.nil (RC.back ?_);refine RC.d1 4 rfl rfl rfl ?_
  exact ⟨congrArg Value.bool (by (first | exact (decide_eq_true (by (try simp only [hasAP] at *); omega)).symm | exact (decide_eq_false (by (try simp only [hasAP] at *); omega)).symm | exact decide_eq_decide.2 (by (try simp only [hasAP] at *); omega))), S⟩
 ·
  have h6 : ¬ kind = 1 := h1
  refine RC.skip (RC.back (RC.seq (RC.seq (RC.region rfl ?_))));refine RL.mvS rfl ?_;refine RL.eS (.bin rfl rfl rfl) ?_;refine RL.mvS rfl ?_;refine RL.split 11 rfl (fun h2 => ?_) (fun h2 => ?_)
  ·
   have h11 : kind = 3 := h2
   refine RL.offs 2 rfl ?_;refine RL.eS (.pick_t rfl rfl) ?_;refine RL.nil (RC.back ?_);refine RC.cond_t rfl ?_;refine RC.seq (RC.region rfl ?_);refine RL.mvS rfl ?_;refine RL.eS (.bin rfl rfl rfl) ?_;refine RL.mvS rfl ?_;refine RL.split 17 rfl (fun h3 => ?_) (fun h3 => ?_)
   ·
    have h17 : kind = 3 := h3
    refine RL.mvS rfl ?_;refine RL.eS (.bin rfl rfl rfl) ?_;refine RL.eS (.pick_t rfl rfl) ?_;refine RL.mvS rfl ?_;refine RL.split 21 rfl (fun h4 => ?_) (fun h4 => ?_)
    ·
     have h21 := h4
     refine RL.offs 2 rfl ?_;refine RL.eS (.pick_t rfl rfl) ?_;refine RL.asS rfl ?_;refine RL.nil (RC.back ?_);refine RC.d1 4 rfl rfl rfl ?_
     exact ⟨congrArg Value.bool (by (first | exact (decide_eq_true (by (try simp only [hasAP] at *); omega)).symm | exact (decide_eq_false (by (try simp only [hasAP] at *); omega)).symm | exact decide_eq_decide.2 (by (try simp only [hasAP] at *); omega))), S⟩
    ·
     have h21 := h4
     refine RL.mvS rfl ?_;refine RL.eS (.bin rfl rfl rfl) ?_;refine RL.eS (.pick_f rfl rfl) ?_;refine RL.asS rfl ?_;refine RL.nil (RC.back ?_);refine RC.d1 4 rfl rfl rfl ?_
     exact ⟨congrArg Value.bool (by (first | exact (decide_eq_true (by (try simp only [hasAP] at *); omega)).symm | exact (decide_eq_false (by (try simp only [hasAP] at *); omega)).symm | exact decide_eq_decide.2 (by (try simp only [hasAP] at *); omega))), S⟩
   ·
    have h17 : ¬ kind = 3 := h3
    refine RL.offs 2 rfl ?_;refine RL.eS (.pick_f rfl rfl) ?_;refine RL.mvS rfl ?_;refine RL.mvS rfl ?_;refine RL.eS (.bin rfl rfl rfl) ?_;refine RL.eS (.pick_f rfl rfl) ?_;refine RL.asS rfl ?_;refine RL.nil (RC.back ?_);refine RC.d1 4 rfl rfl rfl ?_
    exact ⟨congrArg Value.bool (by (first | exact (decide_eq_true (by (try simp only [hasAP] at *); omega)).symm | exact (decide_eq_false (by (try simp only [hasAP] at *); omega)).symm | exact decide_eq_decide.2 (by (try simp only [hasAP] at *); omega))), S⟩
  ·
   have h11 : ¬ kind = 3 := h2
   refine RL.mvS rfl ?_;refine RL.eS (.bin rfl rfl rfl) ?_;refine RL.eS (.pick_f rfl rfl) ?_;refine RL.nil (RC.back ?_);refine RC.cond_dec rfl (fun h5 => ?_) (fun h5 => ?_)
   ·
    have h14 : kind = 5 := h5
    refine RC.seq (RC.region rfl ?_);refine RL.mvS rfl ?_;refine RL.eS (.bin rfl rfl rfl) ?_;refine RL.mvS rfl ?_;refine RL.split 17 rfl (fun h6 => ?_) (fun h6 => ?_)
    ·
     have h17 : kind = 3 := h6
     refine RL.mvS rfl ?_;refine RL.eS (.bin rfl rfl rfl) ?_;refine RL.eS (.pick_t rfl rfl) ?_;refine RL.mvS rfl ?_;refine RL.split 21 rfl (fun h7 => ?_) (fun h7 => ?_)
     ·
      have h21 := h7
      refine RL.offs 2 rfl ?_;refine RL.eS (.pick_t rfl rfl) ?_;refine RL.asS rfl ?_;refine RL.nil (RC.back ?_);refine RC.d1 4 rfl rfl rfl ?_
      exact ⟨congrArg Value.bool (by (first | exact (decide_eq_true (by (try simp only [hasAP] at *); omega)).symm | exact (decide_eq_false (by (try simp only [hasAP] at *); omega)).symm | exact decide_eq_decide.2 (by (try simp only [hasAP] at *); omega))), S⟩
     ·
      have h21 := h7
      refine RL.mvS rfl ?_;refine RL.eS (.bin rfl rfl rfl) ?_;refine RL.eS (.pick_f rfl rfl) ?_;refine RL.asS rfl ?_;refine RL.nil (RC.back ?_);refine RC.d1 4 rfl rfl rfl ?_
      exact ⟨congrArg Value.bool (by (first | exact (decide_eq_true (by (try simp only [hasAP] at *); omega)).symm | exact (decide_eq_false (by (try simp only [hasAP] at *); omega)).symm | exact decide_eq_decide.2 (by (try simp only [hasAP] at *); omega))), S⟩
    ·
     have h17 : ¬ kind = 3 := h6
     refine RL.offs 2 rfl ?_;refine RL.eS (.pick_f rfl rfl) ?_;refine RL.mvS rfl ?_;refine RL.mvS rfl ?_;refine RL.eS (.bin rfl rfl rfl) ?_;refine RL.eS (.pick_f rfl rfl) ?_;refine RL.asS rfl ?_;refine RL.nil (RC.back ?_);refine RC.d1 4 rfl rfl rfl ?_
     exact ⟨congrArg Value.bool (by (first | exact (decide_eq_true (by (try simp only [hasAP] at *); omega)).symm | exact (decide_eq_false (by (try simp only [hasAP] at *); omega)).symm | exact decide_eq_decide.2 (by (try simp only [hasAP] at *); omega))), S⟩
   ·
    have h14 : ¬ kind = 5 := h5
    refine RC.skip (RC.back (RC.seq (RC.region rfl ?_)));refine RL.mvS rfl ?_;refine RL.eS (.bin rfl rfl rfl) ?_;refine RL.mvS rfl ?_;refine RL.split 27 rfl (fun h8 => ?_) (fun h8 => ?_)
    ·
     have h27 : kind = 2 := h8
     refine RL.offs 2 rfl ?_;refine RL.eS (.pick_t rfl rfl) ?_;refine RL.asS rfl ?_;refine RL.nil (RC.back ?_);refine RC.d1 4 rfl rfl rfl ?_
     exact ⟨congrArg Value.bool (by (first | exact (decide_eq_true (by (try simp only [hasAP] at *); omega)).symm | exact (decide_eq_false (by (try simp only [hasAP] at *); omega)).symm | exact decide_eq_decide.2 (by (try simp only [hasAP] at *); omega))), S⟩
    ·
     have h27 : ¬ kind = 2 := h8
     refine RL.mvS rfl ?_;refine RL.eS (.bin rfl rfl rfl) ?_;refine RL.eS (.pick_f rfl rfl) ?_;refine RL.asS rfl ?_;refine RL.nil (RC.back ?_);refine RC.d1 4 rfl rfl rfl ?_
     exact ⟨congrArg Value.bool (by (first | exact (decide_eq_true (by (try simp only [hasAP] at *); omega)).symm | exact (decide_eq_false (by (try simp only [hasAP] at *); omega)).symm | exact decide_eq_decide.2 (by (try simp only [hasAP] at *); omega))), S⟩
theorem c_hasB (box kind : Int) (w : World) : FC Try.prog 29 [.int .i64 box, .int .i64 kind] w (Val (.bool (decide (hasBP box kind))) w) := by
 refine FC.intro Try.func29 rfl Try.ntmps29 rfl ?_
 have S := Sub.refl w
 refine RC.seq (RC.region rfl ?_);refine RL.asS rfl ?_;refine RL.nil (RC.back (RC.seq (RC.region rfl ?_)));refine RL.mvS rfl ?_;refine RL.eS (.bin rfl rfl rfl) ?_;refine RL.mvS rfl ?_;refine RL.split 7 rfl (fun h1 => ?_) (fun h1 => ?_)
 ·
  have h7 : kind = 2 := h1
  refine RL.mvS rfl ?_;refine RL.eS (.bin rfl rfl rfl) ?_;refine RL.eS (.pick_t rfl rfl) ?_;refine RL.asS rfl ?_;refine RL.nil (RC.back ?_);refine RC.d1 4 rfl rfl rfl ?_
  exact ⟨congrArg Value.bool (by (first | exact (decide_eq_true (by (try simp only [hasBP] at *); omega)).symm | exact (decide_eq_false (by (try simp only [hasBP] at *); omega)).symm | exact decide_eq_decide.2 (by (try simp only [hasBP] at *); omega))), S⟩
 ·
  have h7 : ¬ kind = 2 := h1
  refine RL.offs 2 rfl ?_;refine RL.eS (.pick_f rfl rfl) ?_;refine RL.asS rfl ?_;refine RL.nil (RC.back ?_);refine RC.d1 4 rfl rfl rfl ?_
  exact ⟨congrArg Value.bool (by (first | exact (decide_eq_true (by (try simp only [hasBP] at *); omega)).symm | exact (decide_eq_false (by (try simp only [hasBP] at *); omega)).symm | exact decide_eq_decide.2 (by (try simp only [hasBP] at *); omega))), S⟩
theorem c_within (a : Int) (w : World) : FC Try.prog 24 [.int .i64 a] w (Val (.bool (decide (-1073741824 ≤ a ∧ a ≤ 1073741824))) w) := by
 refine FC.intro Try.func24 rfl Try.ntmps24 rfl ?_
 have S := Sub.refl w
 refine RC.seq (RC.region rfl ?_);refine RL.asS rfl ?_;refine RL.nil (RC.back (RC.seq (RC.region rfl ?_)));refine RL.mvS rfl ?_;refine RL.eS (.bin rfl rfl rfl) ?_;refine RL.mvS rfl ?_;refine RL.split 5 rfl (fun h1 => ?_) (fun h1 => ?_)
 ·
  have h5 := h1
  refine RL.mvS rfl ?_;refine RL.eS (.bin rfl rfl rfl) ?_;refine RL.eS (.pick_t rfl rfl) ?_;refine RL.asS rfl ?_;refine RL.nil (RC.back ?_);refine RC.d1 2 rfl rfl rfl ?_
  exact ⟨congrArg Value.bool (by (first | exact (decide_eq_true (by (try simp only [hasBP] at *); omega)).symm | exact (decide_eq_false (by (try simp only [hasBP] at *); omega)).symm | exact decide_eq_decide.2 (by (try simp only [hasBP] at *); omega))), S⟩
 ·
  have h5 := h1
  refine RL.offs 2 rfl ?_;refine RL.eS (.pick_f rfl rfl) ?_;refine RL.asS rfl ?_;refine RL.nil (RC.back ?_);refine RC.d1 2 rfl rfl rfl ?_
  exact ⟨congrArg Value.bool (by (first | exact (decide_eq_true (by (try simp only [hasBP] at *); omega)).symm | exact (decide_eq_false (by (try simp only [hasBP] at *); omega)).symm | exact decide_eq_decide.2 (by (try simp only [hasBP] at *); omega))), S⟩
theorem c_ref13Right (o : OpT) (w : World) : FC Try.prog 15 [.agg o.cells.toArray] w (Val (.bool (decide (okP o))) w) := by
 refine FC.intro Try.func15 rfl Try.ntmps15 rfl ?_
 have S := Sub.refl w
 refine RC.seq (RC.region rfl ?_);refine RL.box rfl rfl rfl (fun b_1 w_1 e_1 z_1 hb_1 s_1 => ?_);have S := S.trans s_1
 have hb_1 : Has w_1 b_1 ([.int .i64 o.box, .int .i64 o.kind, .int .i64 o.a, .int .i64 o.b]) _ := hb_1
 refine RL.asS rfl ?_;refine RL.nil (RC.back ?_);refine RC.cutx (α := Unit) (fun _ => [(1, .pointer (some ⟨b_1, 0, none⟩))]) (fun _ w1 => kindP o.box o.kind ∧ Has w1 b_1 [.int .i64 o.box, .int .i64 o.kind, .int .i64 o.a, .int .i64 o.b] 27 ∧ Sub w w1) ?_ (fun _ w1 hJ => ?_)
 ·
  refine RC.seq (RC.region rfl ?_);refine RL.eS (.field0 fo27_0 rfl) ?_;refine RL.eS (.load1 sh3 rfl (hb_1.cell rfl)) ?_;refine RL.eS (.bin rfl rfl rfl) ?_;refine RL.mvS rfl ?_;refine RL.split 6 rfl (fun h2 => ?_) (fun h2 => ?_)
  ·
   refine RL.offs 3 rfl ?_;refine RL.eS (.pick_t rfl rfl) ?_;refine RL.mvS rfl ?_;refine RL.offs 3 rfl ?_;refine RL.eS (.pick_t rfl rfl) ?_;refine RL.mvS rfl ?_;refine RL.offs 3 rfl ?_;refine RL.eS (.pick_t rfl rfl) ?_;refine RL.mvS rfl ?_;refine RL.offs 18 rfl ?_;refine RL.eS (.pick_t rfl rfl) ?_;refine RL.nil (RC.back ?_);refine RC.cond_t rfl ?_;refine RC.seq (RC.region rfl ?_);refine RL.asS rfl ?_;refine RL.nil (RC.back ?_);refine RC.d1 2 rfl rfl rfl ?_
   exact ⟨congrArg Value.bool (by (first | exact (decide_eq_true (by (try simp only [okP, kindP, hasAP, hasBP] at *); omega)).symm | exact (decide_eq_false (by (try simp only [okP, kindP, hasAP, hasBP] at *); omega)).symm | exact decide_eq_decide.2 (by (try simp only [okP, kindP, hasAP, hasBP] at *); omega))), S⟩
  ·
   refine RL.eS (.field0 fo27_0 rfl) ?_;refine RL.eS (.load1 sh3 rfl (hb_1.cell rfl)) ?_;refine RL.eS (.bin rfl rfl rfl) ?_;refine RL.eS (.pick_f rfl rfl) ?_;refine RL.mvS rfl ?_;refine RL.split 11 rfl (fun h3 => ?_) (fun h3 => ?_)
   ·
    refine RL.offs 3 rfl ?_;refine RL.eS (.pick_t rfl rfl) ?_;refine RL.mvS rfl ?_;refine RL.offs 3 rfl ?_;refine RL.eS (.pick_t rfl rfl) ?_;refine RL.mvS rfl ?_;refine RL.offs 18 rfl ?_;refine RL.eS (.pick_t rfl rfl) ?_;refine RL.nil (RC.back ?_);refine RC.cond_t rfl ?_;refine RC.seq (RC.region rfl ?_);refine RL.asS rfl ?_;refine RL.nil (RC.back ?_);refine RC.d1 2 rfl rfl rfl ?_
    exact ⟨congrArg Value.bool (by (first | exact (decide_eq_true (by (try simp only [okP, kindP, hasAP, hasBP] at *); omega)).symm | exact (decide_eq_false (by (try simp only [okP, kindP, hasAP, hasBP] at *); omega)).symm | exact decide_eq_decide.2 (by (try simp only [okP, kindP, hasAP, hasBP] at *); omega))), S⟩
   ·
    refine RL.eS (.field0 fo27_1 rfl) ?_;refine RL.eS (.load1 sh3 rfl (hb_1.cell rfl)) ?_;refine RL.eS (.bin rfl rfl rfl) ?_;refine RL.eS (.pick_f rfl rfl) ?_;refine RL.mvS rfl ?_;refine RL.split 16 rfl (fun h4 => ?_) (fun h4 => ?_)
    ·
     refine RL.offs 3 rfl ?_;refine RL.eS (.pick_t rfl rfl) ?_;refine RL.mvS rfl ?_;refine RL.offs 18 rfl ?_;refine RL.eS (.pick_t rfl rfl) ?_;refine RL.nil (RC.back ?_);refine RC.cond_t rfl ?_;refine RC.seq (RC.region rfl ?_);refine RL.asS rfl ?_;refine RL.nil (RC.back ?_);refine RC.d1 2 rfl rfl rfl ?_
     exact ⟨congrArg Value.bool (by (first | exact (decide_eq_true (by (try simp only [okP, kindP, hasAP, hasBP] at *); omega)).symm | exact (decide_eq_false (by (try simp only [okP, kindP, hasAP, hasBP] at *); omega)).symm | exact decide_eq_decide.2 (by (try simp only [okP, kindP, hasAP, hasBP] at *); omega))), S⟩
    ·
     refine RL.eS (.field0 fo27_1 rfl) ?_;refine RL.eS (.load1 sh3 rfl (hb_1.cell rfl)) ?_;refine RL.eS (.bin rfl rfl rfl) ?_;refine RL.eS (.pick_f rfl rfl) ?_;refine RL.mvS rfl ?_;refine RL.split 21 rfl (fun h5 => ?_) (fun h5 => ?_)
     ·
      refine RL.offs 18 rfl ?_;refine RL.eS (.pick_t rfl rfl) ?_;refine RL.nil (RC.back ?_);refine RC.cond_t rfl ?_;refine RC.seq (RC.region rfl ?_);refine RL.asS rfl ?_;refine RL.nil (RC.back ?_);refine RC.d1 2 rfl rfl rfl ?_
      exact ⟨congrArg Value.bool (by (first | exact (decide_eq_true (by (try simp only [okP, kindP, hasAP, hasBP] at *); omega)).symm | exact (decide_eq_false (by (try simp only [okP, kindP, hasAP, hasBP] at *); omega)).symm | exact decide_eq_decide.2 (by (try simp only [okP, kindP, hasAP, hasBP] at *); omega))), S⟩
     ·
      refine RL.eS (.field0 fo27_0 rfl) ?_;refine RL.eS (.load1 sh3 rfl (hb_1.cell rfl)) ?_;refine RL.eS (.bin rfl rfl rfl) ?_;refine RL.mvS rfl ?_;refine RL.split 25 rfl (fun h6 => ?_) (fun h6 => ?_)
      ·
       refine RL.offs 3 rfl ?_;refine RL.eS (.pick_t rfl rfl) ?_;refine RL.mvS rfl ?_;refine RL.eS (.field0 fo27_1 rfl) ?_;refine RL.eS (.load1 sh3 rfl (hb_1.cell rfl)) ?_;refine RL.eS (.bin rfl rfl rfl) ?_;refine RL.mvS rfl ?_;refine RL.split 34 rfl (fun h7 => ?_) (fun h7 => ?_)
       ·
        refine RL.offs 3 rfl ?_;refine RL.eS (.pick_t rfl rfl) ?_;refine RL.eS (.pick_t rfl rfl) ?_;refine RL.eS (.pick_f rfl rfl) ?_;refine RL.nil (RC.back ?_);refine RC.cond_t rfl ?_;refine RC.seq (RC.region rfl ?_);refine RL.asS rfl ?_;refine RL.nil (RC.back ?_);refine RC.d1 2 rfl rfl rfl ?_
        exact ⟨congrArg Value.bool (by (first | exact (decide_eq_true (by (try simp only [okP, kindP, hasAP, hasBP] at *); omega)).symm | exact (decide_eq_false (by (try simp only [okP, kindP, hasAP, hasBP] at *); omega)).symm | exact decide_eq_decide.2 (by (try simp only [okP, kindP, hasAP, hasBP] at *); omega))), S⟩
       ·
        refine RL.eS (.field0 fo27_1 rfl) ?_;refine RL.eS (.load1 sh3 rfl (hb_1.cell rfl)) ?_;refine RL.eS (.bin rfl rfl rfl) ?_;refine RL.eS (.pick_f rfl rfl) ?_;refine RL.eS (.pick_t rfl rfl) ?_;refine RL.eS (.pick_f rfl rfl) ?_;refine RL.nil (RC.back ?_);refine RC.cond_dec rfl (fun h8 => ?_) (fun h8 => ?_)
        ·
         refine RC.seq (RC.region rfl ?_);refine RL.asS rfl ?_;refine RL.nil (RC.back ?_);refine RC.d1 2 rfl rfl rfl ?_
         exact ⟨congrArg Value.bool (by (first | exact (decide_eq_true (by (try simp only [okP, kindP, hasAP, hasBP] at *); omega)).symm | exact (decide_eq_false (by (try simp only [okP, kindP, hasAP, hasBP] at *); omega)).symm | exact decide_eq_decide.2 (by (try simp only [okP, kindP, hasAP, hasBP] at *); omega))), S⟩
        ·
         exact RC.skip (fun a ka => ⟨(), ⟨by unfold kindP; omega, hb_1, S⟩, ka.keep (keep_of (by repeat (first | exact trivial | refine And.intro rfl ?_)))⟩)
      ·
       refine RL.eS (.field0 fo27_0 rfl) ?_;refine RL.eS (.load1 sh3 rfl (hb_1.cell rfl)) ?_;refine RL.eS (.bin rfl rfl rfl) ?_;refine RL.eS (.pick_f rfl rfl) ?_;refine RL.mvS rfl ?_;refine RL.split 30 rfl (fun h9 => ?_) (fun h9 => ?_)
       ·
        refine RL.eS (.field0 fo27_1 rfl) ?_;refine RL.eS (.load1 sh3 rfl (hb_1.cell rfl)) ?_;refine RL.eS (.bin rfl rfl rfl) ?_;refine RL.mvS rfl ?_;refine RL.split 34 rfl (fun h10 => ?_) (fun h10 => ?_)
        ·
         refine RL.offs 3 rfl ?_;refine RL.eS (.pick_t rfl rfl) ?_;refine RL.eS (.pick_t rfl rfl) ?_;refine RL.eS (.pick_f rfl rfl) ?_;refine RL.nil (RC.back ?_);refine RC.cond_t rfl ?_;refine RC.seq (RC.region rfl ?_);refine RL.asS rfl ?_;refine RL.nil (RC.back ?_);refine RC.d1 2 rfl rfl rfl ?_
         exact ⟨congrArg Value.bool (by (first | exact (decide_eq_true (by (try simp only [okP, kindP, hasAP, hasBP] at *); omega)).symm | exact (decide_eq_false (by (try simp only [okP, kindP, hasAP, hasBP] at *); omega)).symm | exact decide_eq_decide.2 (by (try simp only [okP, kindP, hasAP, hasBP] at *); omega))), S⟩
        ·
         refine RL.eS (.field0 fo27_1 rfl) ?_;refine RL.eS (.load1 sh3 rfl (hb_1.cell rfl)) ?_;refine RL.eS (.bin rfl rfl rfl) ?_;refine RL.eS (.pick_f rfl rfl) ?_;refine RL.eS (.pick_t rfl rfl) ?_;refine RL.eS (.pick_f rfl rfl) ?_;refine RL.nil (RC.back ?_);refine RC.cond_dec rfl (fun h11 => ?_) (fun h11 => ?_)
         ·
          refine RC.seq (RC.region rfl ?_);refine RL.asS rfl ?_;refine RL.nil (RC.back ?_);refine RC.d1 2 rfl rfl rfl ?_
          exact ⟨congrArg Value.bool (by (first | exact (decide_eq_true (by (try simp only [okP, kindP, hasAP, hasBP] at *); omega)).symm | exact (decide_eq_false (by (try simp only [okP, kindP, hasAP, hasBP] at *); omega)).symm | exact decide_eq_decide.2 (by (try simp only [okP, kindP, hasAP, hasBP] at *); omega))), S⟩
         ·
          exact RC.skip (fun a ka => ⟨(), ⟨by unfold kindP; omega, hb_1, S⟩, ka.keep (keep_of (by repeat (first | exact trivial | refine And.intro rfl ?_)))⟩)
       ·
        refine RL.offs 8 rfl ?_;refine RL.eS (.pick_f rfl rfl) ?_;refine RL.eS (.pick_f rfl rfl) ?_;refine RL.nil (RC.back ?_);refine RC.cond_f rfl ?_
        exact RC.skip (fun a ka => ⟨(), ⟨by unfold kindP; omega, hb_1, S⟩, ka.keep (keep_of (by repeat (first | exact trivial | refine And.intro rfl ?_)))⟩)
 obtain ⟨hkp, hb_1, S⟩ := hJ
 unfold kindP at hkp
 refine RC.cutx (α := Unit) (fun _ => [(1, .pointer (some ⟨b_1, 0, none⟩))]) (fun _ w12 => kindP o.box o.kind ∧ (-1073741824 ≤ o.a ∧ o.a ≤ 1073741824 ∧ -1073741824 ≤ o.b ∧ o.b ≤ 1073741824) ∧ Has w12 b_1 [.int .i64 o.box, .int .i64 o.kind, .int .i64 o.a, .int .i64 o.b] 27 ∧ Sub w w12) ?_ (fun _ w12 hJ => ?_)
 ·
  refine RC.seq (RC.region rfl ?_);refine RL.eS (.field0 fo27_2 rfl) ?_;refine RL.eS (.load1 sh2 rfl (hb_1.cell rfl)) ?_;refine RL.eS (.bin rfl rfl rfl) ?_;refine RL.mvS rfl ?_;refine RL.split 44 rfl (fun h13 => ?_) (fun h13 => ?_)
  ·
   refine RL.offs 3 rfl ?_;refine RL.eS (.pick_t rfl rfl) ?_;refine RL.mvS rfl ?_;refine RL.offs 3 rfl ?_;refine RL.eS (.pick_t rfl rfl) ?_;refine RL.mvS rfl ?_;refine RL.offs 3 rfl ?_;refine RL.eS (.pick_t rfl rfl) ?_;refine RL.nil (RC.back ?_);refine RC.cond_t rfl ?_;refine RC.seq (RC.region rfl ?_);refine RL.asS rfl ?_;refine RL.nil (RC.back ?_);refine RC.d1 2 rfl rfl rfl ?_
   exact ⟨congrArg Value.bool (by (first | exact (decide_eq_true (by (try simp only [okP, kindP, hasAP, hasBP] at *); omega)).symm | exact (decide_eq_false (by (try simp only [okP, kindP, hasAP, hasBP] at *); omega)).symm | exact decide_eq_decide.2 (by (try simp only [okP, kindP, hasAP, hasBP] at *); omega))), S⟩
  ·
   refine RL.eS (.field0 fo27_2 rfl) ?_;refine RL.eS (.load1 sh2 rfl (hb_1.cell rfl)) ?_;refine RL.eS (.bin rfl rfl rfl) ?_;refine RL.eS (.pick_f rfl rfl) ?_;refine RL.mvS rfl ?_;refine RL.split 49 rfl (fun h14 => ?_) (fun h14 => ?_)
   ·
    refine RL.offs 3 rfl ?_;refine RL.eS (.pick_t rfl rfl) ?_;refine RL.mvS rfl ?_;refine RL.offs 3 rfl ?_;refine RL.eS (.pick_t rfl rfl) ?_;refine RL.nil (RC.back ?_);refine RC.cond_t rfl ?_;refine RC.seq (RC.region rfl ?_);refine RL.asS rfl ?_;refine RL.nil (RC.back ?_);refine RC.d1 2 rfl rfl rfl ?_
    exact ⟨congrArg Value.bool (by (first | exact (decide_eq_true (by (try simp only [okP, kindP, hasAP, hasBP] at *); omega)).symm | exact (decide_eq_false (by (try simp only [okP, kindP, hasAP, hasBP] at *); omega)).symm | exact decide_eq_decide.2 (by (try simp only [okP, kindP, hasAP, hasBP] at *); omega))), S⟩
   ·
    refine RL.eS (.field0 fo27_3 rfl) ?_;refine RL.eS (.load1 sh2 rfl (hb_1.cell rfl)) ?_;refine RL.eS (.bin rfl rfl rfl) ?_;refine RL.eS (.pick_f rfl rfl) ?_;refine RL.mvS rfl ?_;refine RL.split 54 rfl (fun h15 => ?_) (fun h15 => ?_)
    ·
     refine RL.offs 3 rfl ?_;refine RL.eS (.pick_t rfl rfl) ?_;refine RL.nil (RC.back ?_);refine RC.cond_t rfl ?_;refine RC.seq (RC.region rfl ?_);refine RL.asS rfl ?_;refine RL.nil (RC.back ?_);refine RC.d1 2 rfl rfl rfl ?_
     exact ⟨congrArg Value.bool (by (first | exact (decide_eq_true (by (try simp only [okP, kindP, hasAP, hasBP] at *); omega)).symm | exact (decide_eq_false (by (try simp only [okP, kindP, hasAP, hasBP] at *); omega)).symm | exact decide_eq_decide.2 (by (try simp only [okP, kindP, hasAP, hasBP] at *); omega))), S⟩
    ·
     refine RL.eS (.field0 fo27_3 rfl) ?_;refine RL.eS (.load1 sh2 rfl (hb_1.cell rfl)) ?_;refine RL.eS (.bin rfl rfl rfl) ?_;refine RL.eS (.pick_f rfl rfl) ?_;refine RL.nil (RC.back ?_);refine RC.cond_dec rfl (fun h16 => ?_) (fun h16 => ?_)
     ·
      refine RC.seq (RC.region rfl ?_);refine RL.asS rfl ?_;refine RL.nil (RC.back ?_);refine RC.d1 2 rfl rfl rfl ?_
      exact ⟨congrArg Value.bool (by (first | exact (decide_eq_true (by (try simp only [okP, kindP, hasAP, hasBP] at *); omega)).symm | exact (decide_eq_false (by (try simp only [okP, kindP, hasAP, hasBP] at *); omega)).symm | exact decide_eq_decide.2 (by (try simp only [okP, kindP, hasAP, hasBP] at *); omega))), S⟩
     ·
      exact RC.skip (fun a ka => ⟨(), ⟨by unfold kindP; omega, ⟨by omega, by omega, by omega, by omega⟩, hb_1, S⟩, ka.keep (keep_of (by repeat (first | exact trivial | refine And.intro rfl ?_)))⟩)
 obtain ⟨hkp, hbd, hb_1, S⟩ := hJ
 unfold kindP at hkp
 refine RC.seq (RC.region rfl ?_);refine RL.eS (.field0 fo27_0 rfl) ?_;refine RL.eS (.load1 sh3 rfl (hb_1.cell rfl)) ?_;refine RL.eS (.field0 fo27_1 rfl) ?_;refine RL.eS (.load1 sh3 rfl (hb_1.cell rfl)) ?_;refine RL.call rfl ok28 (c_hasA o.box o.kind w12) rfl rfl ?_;rintro _ w17 ⟨rfl, s18⟩;have S := S.trans s18;have hb_1 := hb_1.sub s18;refine RL.mvS rfl ?_;refine RL.split 64 rfl (fun h19 => ?_) (fun h19 => ?_)
 ·
  refine RL.offs 3 rfl ?_;refine RL.eS (.pick_t rfl rfl) ?_;refine RL.mvS rfl ?_;refine RL.eS (.field0 fo27_0 rfl) ?_;refine RL.eS (.load1 sh3 rfl (hb_1.cell rfl)) ?_;refine RL.eS (.field0 fo27_1 rfl) ?_;refine RL.eS (.load1 sh3 rfl (hb_1.cell rfl)) ?_;refine RL.call rfl ok29 (c_hasB o.box o.kind w17) rfl rfl ?_;rintro _ w20 ⟨rfl, s21⟩;have S := S.trans s21;have hb_1 := hb_1.sub s21;refine RL.mvS rfl ?_;refine RL.split 75 rfl (fun h22 => ?_) (fun h22 => ?_)
  ·
   refine RL.offs 3 rfl ?_;refine RL.eS (.pick_t rfl rfl) ?_;refine RL.eS (.pick_t rfl rfl) ?_;refine RL.asS rfl ?_;refine RL.nil (RC.back ?_);refine RC.d1 2 rfl rfl rfl ?_
   exact ⟨congrArg Value.bool (by (first | exact (decide_eq_true (by (try simp only [okP, kindP, hasAP, hasBP] at *); omega)).symm | exact (decide_eq_false (by (try simp only [okP, kindP, hasAP, hasBP] at *); omega)).symm | exact decide_eq_decide.2 (by (try simp only [okP, kindP, hasAP, hasBP] at *); omega))), S⟩
  ·
   refine RL.eS (.field0 fo27_3 rfl) ?_;refine RL.eS (.load1 sh2 rfl (hb_1.cell rfl)) ?_;refine RL.eS (.bin rfl rfl rfl) ?_;refine RL.eS (.pick_f rfl rfl) ?_;refine RL.eS (.pick_t rfl rfl) ?_;refine RL.asS rfl ?_;refine RL.nil (RC.back ?_);refine RC.d1 2 rfl rfl rfl ?_
   exact ⟨congrArg Value.bool (by (first | exact (decide_eq_true (by (try simp only [okP, kindP, hasAP, hasBP] at *); omega)).symm | exact (decide_eq_false (by (try simp only [okP, kindP, hasAP, hasBP] at *); omega)).symm | exact decide_eq_decide.2 (by (try simp only [okP, kindP, hasAP, hasBP] at *); omega))), S⟩
 ·
  refine RL.eS (.field0 fo27_2 rfl) ?_;refine RL.eS (.load1 sh2 rfl (hb_1.cell rfl)) ?_;refine RL.eS (.bin rfl rfl rfl) ?_;refine RL.eS (.pick_f rfl rfl) ?_;refine RL.mvS rfl ?_;refine RL.split 69 rfl (fun h23 => ?_) (fun h23 => ?_)
  ·
   refine RL.eS (.field0 fo27_0 rfl) ?_;refine RL.eS (.load1 sh3 rfl (hb_1.cell rfl)) ?_;refine RL.eS (.field0 fo27_1 rfl) ?_;refine RL.eS (.load1 sh3 rfl (hb_1.cell rfl)) ?_;refine RL.call rfl ok29 (c_hasB o.box o.kind w17) rfl rfl ?_;rintro _ w24 ⟨rfl, s25⟩;have S := S.trans s25;have hb_1 := hb_1.sub s25;refine RL.mvS rfl ?_;refine RL.split 75 rfl (fun h26 => ?_) (fun h26 => ?_)
   ·
    refine RL.offs 3 rfl ?_;refine RL.eS (.pick_t rfl rfl) ?_;refine RL.eS (.pick_t rfl rfl) ?_;refine RL.asS rfl ?_;refine RL.nil (RC.back ?_);refine RC.d1 2 rfl rfl rfl ?_
    exact ⟨congrArg Value.bool (by (first | exact (decide_eq_true (by (try simp only [okP, kindP, hasAP, hasBP] at *); omega)).symm | exact (decide_eq_false (by (try simp only [okP, kindP, hasAP, hasBP] at *); omega)).symm | exact decide_eq_decide.2 (by (try simp only [okP, kindP, hasAP, hasBP] at *); omega))), S⟩
   ·
    refine RL.eS (.field0 fo27_3 rfl) ?_;refine RL.eS (.load1 sh2 rfl (hb_1.cell rfl)) ?_;refine RL.eS (.bin rfl rfl rfl) ?_;refine RL.eS (.pick_f rfl rfl) ?_;refine RL.eS (.pick_t rfl rfl) ?_;refine RL.asS rfl ?_;refine RL.nil (RC.back ?_);refine RC.d1 2 rfl rfl rfl ?_
    exact ⟨congrArg Value.bool (by (first | exact (decide_eq_true (by (try simp only [okP, kindP, hasAP, hasBP] at *); omega)).symm | exact (decide_eq_false (by (try simp only [okP, kindP, hasAP, hasBP] at *); omega)).symm | exact decide_eq_decide.2 (by (try simp only [okP, kindP, hasAP, hasBP] at *); omega))), S⟩
  ·
   refine RL.offs 10 rfl ?_;refine RL.eS (.pick_f rfl rfl) ?_;refine RL.asS rfl ?_;refine RL.nil (RC.back ?_);refine RC.d1 2 rfl rfl rfl ?_
   exact ⟨congrArg Value.bool (by (first | exact (decide_eq_true (by (try simp only [okP, kindP, hasAP, hasBP] at *); omega)).symm | exact (decide_eq_false (by (try simp only [okP, kindP, hasAP, hasBP] at *); omega)).symm | exact decide_eq_decide.2 (by (try simp only [okP, kindP, hasAP, hasBP] at *); omega))), S⟩
theorem c_ref13Reads (o : OpT) (w : World) : FC Try.prog 8 [.agg o.cells.toArray] w (Val (.bool (decide (readsP o))) w) := by
 refine FC.intro Try.func8 rfl Try.ntmps8 rfl ?_
 have S := Sub.refl w
 refine RC.seq (RC.region rfl ?_);refine RL.box rfl rfl rfl (fun b_1 w_1 e_1 z_1 hb_1 s_1 => ?_);have S := S.trans s_1
 have hb_1 : Has w_1 b_1 ([.int .i64 o.box, .int .i64 o.kind, .int .i64 o.a, .int .i64 o.b]) _ := hb_1
 refine RL.asS rfl ?_;refine RL.nil (RC.back (RC.seq (RC.region rfl ?_)));refine RL.eS (.loadR ([.int .i64 o.box, .int .i64 o.kind, .int .i64 o.a, .int .i64 o.b]) sh27 rfl hb_1.row rfl) ?_;refine RL.call rfl ok15 (c_ref13Right o w_1) rfl rfl ?_;rintro _ w1 ⟨rfl, s2⟩;have S := S.trans s2;have hb_1 := hb_1.sub s2;refine RL.mvS rfl ?_;refine RL.split 5 rfl (fun h3 => ?_) (fun h3 => ?_)
 ·
  refine RL.eS (.field0 fo27_1 rfl) ?_;refine RL.eS (.load1 sh3 rfl (hb_1.cell rfl)) ?_;refine RL.eS (.bin rfl rfl rfl) ?_;refine RL.mvS rfl ?_;refine RL.split 9 rfl (fun h4 => ?_) (fun h4 => ?_)
  ·
   refine RL.offs 3 rfl ?_;refine RL.eS (.pick_t rfl rfl) ?_;refine RL.mvS rfl ?_;refine RL.offs 13 rfl ?_;refine RL.eS (.pick_t rfl rfl) ?_;refine RL.eS (.pick_t rfl rfl) ?_;refine RL.asS rfl ?_;refine RL.nil (RC.back ?_);refine RC.d1 2 rfl rfl rfl ?_
   exact ⟨congrArg Value.bool (by (first | exact (decide_eq_true (by (try simp only [readsP, okP, kindP, hasAP, hasBP] at *); omega)).symm | exact (decide_eq_false (by (try simp only [readsP, okP, kindP, hasAP, hasBP] at *); omega)).symm | exact decide_eq_decide.2 (by (try simp only [readsP, okP, kindP, hasAP, hasBP] at *); omega))), S⟩
  ·
   refine RL.eS (.field0 fo27_1 rfl) ?_;refine RL.eS (.load1 sh3 rfl (hb_1.cell rfl)) ?_;refine RL.eS (.bin rfl rfl rfl) ?_;refine RL.eS (.pick_f rfl rfl) ?_;refine RL.mvS rfl ?_;refine RL.split 14 rfl (fun h5 => ?_) (fun h5 => ?_)
   ·
    refine RL.offs 13 rfl ?_;refine RL.eS (.pick_t rfl rfl) ?_;refine RL.eS (.pick_t rfl rfl) ?_;refine RL.asS rfl ?_;refine RL.nil (RC.back ?_);refine RC.d1 2 rfl rfl rfl ?_
    exact ⟨congrArg Value.bool (by (first | exact (decide_eq_true (by (try simp only [readsP, okP, kindP, hasAP, hasBP] at *); omega)).symm | exact (decide_eq_false (by (try simp only [readsP, okP, kindP, hasAP, hasBP] at *); omega)).symm | exact decide_eq_decide.2 (by (try simp only [readsP, okP, kindP, hasAP, hasBP] at *); omega))), S⟩
   ·
    refine RL.eS (.field0 fo27_0 rfl) ?_;refine RL.eS (.load1 sh3 rfl (hb_1.cell rfl)) ?_;refine RL.eS (.bin rfl rfl rfl) ?_;refine RL.mvS rfl ?_;refine RL.split 18 rfl (fun h6 => ?_) (fun h6 => ?_)
    ·
     refine RL.eS (.field0 fo27_1 rfl) ?_;refine RL.eS (.load1 sh3 rfl (hb_1.cell rfl)) ?_;refine RL.eS (.bin rfl rfl rfl) ?_;refine RL.mvS rfl ?_;refine RL.split 22 rfl (fun h7 => ?_) (fun h7 => ?_)
     ·
      refine RL.offs 3 rfl ?_;refine RL.eS (.pick_t rfl rfl) ?_;refine RL.eS (.pick_t rfl rfl) ?_;refine RL.eS (.pick_f rfl rfl) ?_;refine RL.eS (.pick_t rfl rfl) ?_;refine RL.asS rfl ?_;refine RL.nil (RC.back ?_);refine RC.d1 2 rfl rfl rfl ?_
      exact ⟨congrArg Value.bool (by (first | exact (decide_eq_true (by (try simp only [readsP, okP, kindP, hasAP, hasBP] at *); omega)).symm | exact (decide_eq_false (by (try simp only [readsP, okP, kindP, hasAP, hasBP] at *); omega)).symm | exact decide_eq_decide.2 (by (try simp only [readsP, okP, kindP, hasAP, hasBP] at *); omega))), S⟩
     ·
      refine RL.eS (.field0 fo27_1 rfl) ?_;refine RL.eS (.load1 sh3 rfl (hb_1.cell rfl)) ?_;refine RL.eS (.bin rfl rfl rfl) ?_;refine RL.eS (.pick_f rfl rfl) ?_;refine RL.eS (.pick_t rfl rfl) ?_;refine RL.eS (.pick_f rfl rfl) ?_;refine RL.eS (.pick_t rfl rfl) ?_;refine RL.asS rfl ?_;refine RL.nil (RC.back ?_);refine RC.d1 2 rfl rfl rfl ?_
      exact ⟨congrArg Value.bool (by (first | exact (decide_eq_true (by (try simp only [readsP, okP, kindP, hasAP, hasBP] at *); omega)).symm | exact (decide_eq_false (by (try simp only [readsP, okP, kindP, hasAP, hasBP] at *); omega)).symm | exact decide_eq_decide.2 (by (try simp only [readsP, okP, kindP, hasAP, hasBP] at *); omega))), S⟩
    ·
     refine RL.offs 8 rfl ?_;refine RL.eS (.pick_f rfl rfl) ?_;refine RL.eS (.pick_f rfl rfl) ?_;refine RL.eS (.pick_t rfl rfl) ?_;refine RL.asS rfl ?_;refine RL.nil (RC.back ?_);refine RC.d1 2 rfl rfl rfl ?_
     exact ⟨congrArg Value.bool (by (first | exact (decide_eq_true (by (try simp only [readsP, okP, kindP, hasAP, hasBP] at *); omega)).symm | exact (decide_eq_false (by (try simp only [readsP, okP, kindP, hasAP, hasBP] at *); omega)).symm | exact decide_eq_decide.2 (by (try simp only [readsP, okP, kindP, hasAP, hasBP] at *); omega))), S⟩
 ·
  refine RL.offs 23 rfl ?_;refine RL.eS (.pick_f rfl rfl) ?_;refine RL.asS rfl ?_;refine RL.nil (RC.back ?_);refine RC.d1 2 rfl rfl rfl ?_
  exact ⟨congrArg Value.bool (by (first | exact (decide_eq_true (by (try simp only [readsP, okP, kindP, hasAP, hasBP] at *); omega)).symm | exact (decide_eq_false (by (try simp only [readsP, okP, kindP, hasAP, hasBP] at *); omega)).symm | exact decide_eq_decide.2 (by (try simp only [readsP, okP, kindP, hasAP, hasBP] at *); omega))), S⟩
theorem opN_spec (b k : Int) : (kindP b k ∧ ∃ n, opN b k = some (.int .i64 n) ∧ (1 ≤ n ↔ hasAP b k) ∧ (n = 2 ↔ hasBP b k)) ∨ (¬ kindP b k ∧ opN b k = none) := by
  by_cases h : kindP b k
  · refine .inl ⟨h, ?_⟩
    have h' := h
    unfold kindP at h'
    have hb : b = 1 ∨ b = 2 ∨ b = 3 ∨ b = 4 := by omega
    have hk : k = 1 ∨ k = 2 ∨ k = 3 ∨ k = 4 ∨ k = 5 ∨ k = 6 := by omega
    rcases hb with rfl | rfl | rfl | rfl <;> rcases hk with rfl | rfl | rfl | rfl | rfl | rfl <;> first | exact absurd h (by decide) | exact ⟨_, rfl, by decide, by decide⟩
  · refine .inr ⟨h, ?_⟩
    unfold opN
    rw [List.find?_eq_none.2]
    · rfl
    intro e he
    simp only [opT, List.mem_cons, List.not_mem_nil, or_false] at he
    rw [decide_eq_true_iff]
    rintro ⟨rfl, rfl⟩
    rcases he with rfl | rfl | rfl | rfl | rfl | rfl | rfl | rfl | rfl | rfl | rfl | rfl | rfl | rfl | rfl | rfl | rfl | rfl | rfl | rfl <;> exact h (by decide)
theorem opN_get (b k : Int) : ∃ n, (opN b k).getD (.int .i64 0) = .int .i64 n ∧ (opN b k).isSome = decide (kindP b k) ∧ (kindP b k → (1 ≤ n ↔ hasAP b k) ∧ (n = 2 ↔ hasBP b k)) := by
  rcases opN_spec b k with ⟨h1, n, h2, h3, h4⟩ | ⟨h1, h2⟩
  · exact ⟨n, by rw [h2]; rfl, by rw [h2, decide_eq_true h1]; rfl, fun _ => ⟨h3, h4⟩⟩
  · exact ⟨0, by rw [h2]; rfl, by rw [h2, decide_eq_false h1]; rfl, fun h => absurd h h1⟩
theorem c_opRight (o : OpT) (w : World) : FC Try.prog 10 [.agg o.cells.toArray] w (Val (.bool (decide (okP o))) w) := by
 obtain ⟨m, hm1, hm2, hm3⟩ := opN_get o.box o.kind
 refine FC.intro Try.func10 rfl Try.ntmps10 rfl ?_
 have S := Sub.refl w
 refine RC.seq (RC.region rfl ?_);refine RL.box rfl rfl rfl (fun b_1 w_1 e_1 z_1 hb_1 s_1 => ?_);have S := S.trans s_1
 have hb_1 : Has w_1 b_1 ([.int .i64 o.box, .int .i64 o.kind, .int .i64 o.a, .int .i64 o.b]) _ := hb_1
 refine RL.asS rfl ?_;refine RL.nil (RC.back (RC.seq ?_));refine RC.drawD (fun k => False) [] w_1.heap.size 12 rfl rfl mxo (fun w1 s2 => ?_)
 have hNN : ∀ k, ((False) ∨ w_1.heap.size ≤ k) → w.heap.size ≤ k := fun k e => e.elim (fun e => e.elim) (fun e => Nat.le_trans S.size e)
 have hN0 : ∀ k, w_1.heap.size ≤ k → w.heap.size ≤ k := fun k e => Nat.le_trans S.size e
 have ltD_b_1 := hb_1.lt;have S := S.trans s2;have hb_1 := hb_1.sub s2;refine RD.tS 1 rfl (fun w' s' => .field0 fo27_0 rfl) ?_;refine RD.tS 2 rfl (fun w' s' => .load1 sh3 rfl ((hb_1.step s' (fun e => e.elim (fun e => e.elim) (fun e => Nat.not_le.2 ltD_b_1 e))).cell rfl)) ?_;refine RD.tS 3 rfl (fun w' s' => .field0 fo27_1 rfl) ?_;refine RD.tS 4 rfl (fun w' s' => .load1 sh3 rfl ((hb_1.step s' (fun e => e.elim (fun e => e.elim) (fun e => Nat.not_le.2 ltD_b_1 e))).cell rfl)) ?_;refine RD.tS 5 rfl (fun w' s' => .buildS ze58 pl58 rfl rfl) ?_;refine RD.oneS 0 rfl ?_;refine RL.call rfl ok23 (c_numbers w1) rfl rfl ?_;rintro _ w3 ⟨s4, b6, rfl, hb6⟩;have S := S.trans s4;have hb_1 := hb_1.sub s4;refine RD.back s4.agr ?_;refine RD.oneS 6 rfl ?_;refine RL.eS (.lookupP (a := o.box) (c := o.kind) Try.underlying55 pair58 ze3 rfl rfl hb6) ?_;refine RD.back (Agr.refl _ _) ?_;refine RD.tS 7 rfl (fun w' s' => .move rfl) ?_;refine RD.tS 8 rfl (fun w' s' => .as (v' := .int .i64 m) (.extract rfl rfl) (by exact hm1)) ?_;refine RD.tS 9 rfl (fun w' s' => .as (v' := .bool (decide (kindP o.box o.kind))) (.extract rfl rfl) (by exact congrArg Value.bool hm2)) ?_;refine RD.tS 10 rfl (fun w' s' => .assign rfl) ?_;refine RD.tS 11 rfl (fun w' s' => .assign rfl) ?_;refine RD.done (by kernel_rfl) (RC.back ?_);refine RC.seq (RC.region rfl ?_);refine RL.mvS rfl ?_;refine RL.mvS rfl ?_;refine RL.split 16 rfl (fun h5 => ?_) (fun h5 => ?_)
 ·
  have h16 : kindP o.box o.kind := h5
  have hm3 := hm3 h16
  refine RL.eS (.field0 fo27_2 rfl) ?_;refine RL.eS (.load1 sh2 rfl (hb_1.cell rfl)) ?_;refine RL.call rfl ok24 (c_within o.a w3) rfl rfl ?_;rintro _ w6 ⟨rfl, s7⟩;have S := S.trans s7;have hb_1 := hb_1.sub s7;refine RL.eS (.pick_t rfl rfl) ?_;refine RL.mvS rfl ?_;refine RL.split 21 rfl (fun h8 => ?_) (fun h8 => ?_)
  ·
   refine RL.eS (.field0 fo27_3 rfl) ?_;refine RL.eS (.load1 sh2 rfl (hb_1.cell rfl)) ?_;refine RL.call rfl ok24 (c_within o.b w6) rfl rfl ?_;rintro _ w9 ⟨rfl, s10⟩;have S := S.trans s10;have hb_1 := hb_1.sub s10;refine RL.eS (.pick_t rfl rfl) ?_;refine RL.mvS rfl ?_;refine RL.split 26 rfl (fun h11 => ?_) (fun h11 => ?_)
   ·
    refine RL.mvS rfl ?_;refine RL.eS (.bin rfl rfl rfl) ?_;refine RL.mvS rfl ?_;refine RL.split 29 rfl (fun h12 => ?_) (fun h12 => ?_)
    ·
     refine RL.offs 3 rfl ?_;refine RL.eS (.pick_t rfl rfl) ?_;refine RL.eS (.pick_t rfl rfl) ?_;refine RL.mvS rfl ?_;refine RL.mvS rfl ?_;refine RL.eS (.bin rfl rfl rfl) ?_;refine RL.mvS rfl ?_;refine RL.split 38 rfl (fun h13 => ?_) (fun h13 => ?_)
     ·
      refine RL.offs 3 rfl ?_;refine RL.eS (.pick_t rfl rfl) ?_;refine RL.eS (.pick_t rfl rfl) ?_;refine RL.asS rfl ?_;refine RL.nil (RC.back ?_);refine RC.d1 2 rfl rfl rfl ?_
      exact ⟨congrArg Value.bool (by (first | exact (decide_eq_true (by (try simp only [okP, kindP, hasAP, hasBP] at *); omega)).symm | exact (decide_eq_false (by (try simp only [okP, kindP, hasAP, hasBP] at *); omega)).symm | exact decide_eq_decide.2 (by (try simp only [okP, kindP, hasAP, hasBP] at *); omega))), S⟩
     ·
      refine RL.eS (.field0 fo27_3 rfl) ?_;refine RL.eS (.load1 sh2 rfl (hb_1.cell rfl)) ?_;refine RL.eS (.bin rfl rfl rfl) ?_;refine RL.eS (.pick_f rfl rfl) ?_;refine RL.eS (.pick_t rfl rfl) ?_;refine RL.asS rfl ?_;refine RL.nil (RC.back ?_);refine RC.d1 2 rfl rfl rfl ?_
      exact ⟨congrArg Value.bool (by (first | exact (decide_eq_true (by (try simp only [okP, kindP, hasAP, hasBP] at *); omega)).symm | exact (decide_eq_false (by (try simp only [okP, kindP, hasAP, hasBP] at *); omega)).symm | exact decide_eq_decide.2 (by (try simp only [okP, kindP, hasAP, hasBP] at *); omega))), S⟩
    ·
     refine RL.eS (.field0 fo27_2 rfl) ?_;refine RL.eS (.load1 sh2 rfl (hb_1.cell rfl)) ?_;refine RL.eS (.bin rfl rfl rfl) ?_;refine RL.eS (.pick_f rfl rfl) ?_;refine RL.eS (.pick_t rfl rfl) ?_;refine RL.mvS rfl ?_;refine RL.split 35 rfl (fun h14 => ?_) (fun h14 => ?_)
     ·
      refine RL.mvS rfl ?_;refine RL.eS (.bin rfl rfl rfl) ?_;refine RL.mvS rfl ?_;refine RL.split 38 rfl (fun h15 => ?_) (fun h15 => ?_)
      ·
       refine RL.offs 3 rfl ?_;refine RL.eS (.pick_t rfl rfl) ?_;refine RL.eS (.pick_t rfl rfl) ?_;refine RL.asS rfl ?_;refine RL.nil (RC.back ?_);refine RC.d1 2 rfl rfl rfl ?_
       exact ⟨congrArg Value.bool (by (first | exact (decide_eq_true (by (try simp only [okP, kindP, hasAP, hasBP] at *); omega)).symm | exact (decide_eq_false (by (try simp only [okP, kindP, hasAP, hasBP] at *); omega)).symm | exact decide_eq_decide.2 (by (try simp only [okP, kindP, hasAP, hasBP] at *); omega))), S⟩
      ·
       refine RL.eS (.field0 fo27_3 rfl) ?_;refine RL.eS (.load1 sh2 rfl (hb_1.cell rfl)) ?_;refine RL.eS (.bin rfl rfl rfl) ?_;refine RL.eS (.pick_f rfl rfl) ?_;refine RL.eS (.pick_t rfl rfl) ?_;refine RL.asS rfl ?_;refine RL.nil (RC.back ?_);refine RC.d1 2 rfl rfl rfl ?_
       exact ⟨congrArg Value.bool (by (first | exact (decide_eq_true (by (try simp only [okP, kindP, hasAP, hasBP] at *); omega)).symm | exact (decide_eq_false (by (try simp only [okP, kindP, hasAP, hasBP] at *); omega)).symm | exact decide_eq_decide.2 (by (try simp only [okP, kindP, hasAP, hasBP] at *); omega))), S⟩
     ·
      refine RL.offs 7 rfl ?_;refine RL.eS (.pick_f rfl rfl) ?_;refine RL.asS rfl ?_;refine RL.nil (RC.back ?_);refine RC.d1 2 rfl rfl rfl ?_
      exact ⟨congrArg Value.bool (by (first | exact (decide_eq_true (by (try simp only [okP, kindP, hasAP, hasBP] at *); omega)).symm | exact (decide_eq_false (by (try simp only [okP, kindP, hasAP, hasBP] at *); omega)).symm | exact decide_eq_decide.2 (by (try simp only [okP, kindP, hasAP, hasBP] at *); omega))), S⟩
   ·
    refine RL.offs 7 rfl ?_;refine RL.eS (.pick_f rfl rfl) ?_;refine RL.mvS rfl ?_;refine RL.offs 7 rfl ?_;refine RL.eS (.pick_f rfl rfl) ?_;refine RL.asS rfl ?_;refine RL.nil (RC.back ?_);refine RC.d1 2 rfl rfl rfl ?_
    exact ⟨congrArg Value.bool (by (first | exact (decide_eq_true (by (try simp only [okP, kindP, hasAP, hasBP] at *); omega)).symm | exact (decide_eq_false (by (try simp only [okP, kindP, hasAP, hasBP] at *); omega)).symm | exact decide_eq_decide.2 (by (try simp only [okP, kindP, hasAP, hasBP] at *); omega))), S⟩
  ·
   refine RL.offs 3 rfl ?_;refine RL.eS (.pick_f rfl rfl) ?_;refine RL.mvS rfl ?_;refine RL.offs 7 rfl ?_;refine RL.eS (.pick_f rfl rfl) ?_;refine RL.mvS rfl ?_;refine RL.offs 7 rfl ?_;refine RL.eS (.pick_f rfl rfl) ?_;refine RL.asS rfl ?_;refine RL.nil (RC.back ?_);refine RC.d1 2 rfl rfl rfl ?_
   exact ⟨congrArg Value.bool (by (first | exact (decide_eq_true (by (try simp only [okP, kindP, hasAP, hasBP] at *); omega)).symm | exact (decide_eq_false (by (try simp only [okP, kindP, hasAP, hasBP] at *); omega)).symm | exact decide_eq_decide.2 (by (try simp only [okP, kindP, hasAP, hasBP] at *); omega))), S⟩
 ·
  have h16 : ¬ kindP o.box o.kind := h5
  refine RL.offs 3 rfl ?_;refine RL.eS (.pick_f rfl rfl) ?_;refine RL.mvS rfl ?_;refine RL.offs 3 rfl ?_;refine RL.eS (.pick_f rfl rfl) ?_;refine RL.mvS rfl ?_;refine RL.offs 7 rfl ?_;refine RL.eS (.pick_f rfl rfl) ?_;refine RL.mvS rfl ?_;refine RL.offs 7 rfl ?_;refine RL.eS (.pick_f rfl rfl) ?_;refine RL.asS rfl ?_;refine RL.nil (RC.back ?_);refine RC.d1 2 rfl rfl rfl ?_
  exact ⟨congrArg Value.bool (by (first | exact (decide_eq_true (by (try simp only [okP, kindP, hasAP, hasBP] at *); omega)).symm | exact (decide_eq_false (by (try simp only [okP, kindP, hasAP, hasBP] at *); omega)).symm | exact decide_eq_decide.2 (by (try simp only [okP, kindP, hasAP, hasBP] at *); omega))), S⟩
open Go Go.XL
noncomputable def pB (p : Prop) : Bool := @decide p (Classical.propDecidable p)
theorem pB_iff {p : Prop} : pB p = true ↔ p := @decide_eq_true_iff p (Classical.propDecidable p)
theorem pB_yes {p : Prop} (h : p) : pB p = true := pB_iff.2 h
theorem pB_no {p : Prop} (h : ¬ p) : pB p = false := by rw [Bool.eq_false_iff]; exact fun e => h (pB_iff.1 e)
theorem pB_congr {p q : Prop} (h : p ↔ q) : pB p = pB q := by rw [Bool.eq_iff_iff, pB_iff, pB_iff]; exact h
def cmpI (a b : Int) : Int := if a < b then -1 else if b < a then 1 else 0
def cmpIt (x y : It) : Int := if cmpI x.k y.k = 0 then cmpI x.v y.v else cmpI x.k y.k
def lessP (x y : It) : Prop := x.k < y.k ∨ x.k = y.k ∧ x.v < y.v
instance (x y : It) : Decidable (lessP x y) := by unfold lessP; infer_instance
theorem cmpI_lt {a b : Int} (h : a < b) : cmpI a b = -1 := if_pos h
theorem cmpI_gt {a b : Int} (h : b < a) : cmpI a b = 1 := by rw [cmpI, if_neg (by omega), if_pos h]
theorem cmpI_eq {a b : Int} (h : a = b) : cmpI a b = 0 := by rw [cmpI, if_neg (by omega), if_neg (by omega)]
theorem cmpI_cases (a b : Int) : (a < b ∧ cmpI a b = -1) ∨ (b < a ∧ cmpI a b = 1) ∨ (a = b ∧ cmpI a b = 0) := by
  rcases Int.lt_trichotomy a b with h | h | h
  · exact .inl ⟨h, cmpI_lt h⟩
  · exact .inr (.inr ⟨h, cmpI_eq h⟩)
  · exact .inr (.inl ⟨h, cmpI_gt h⟩)
theorem cmpIt_cases (x y : It) : (lessP x y ∧ cmpIt x y = -1) ∨ (lessP y x ∧ cmpIt x y = 1) ∨ (x = y ∧ cmpIt x y = 0) := by
  unfold lessP cmpIt
  rcases cmpI_cases x.k y.k with ⟨h, e⟩ | ⟨h, e⟩ | ⟨h, e⟩ <;> rw [e]
  · exact .inl ⟨.inl h, rfl⟩
  · exact .inr (.inl ⟨.inl h, rfl⟩)
  · rw [if_pos rfl]
    rcases cmpI_cases x.v y.v with ⟨h2, e2⟩ | ⟨h2, e2⟩ | ⟨h2, e2⟩ <;> rw [e2]
    · exact .inl ⟨.inr ⟨h, h2⟩, rfl⟩
    · exact .inr (.inl ⟨.inr ⟨h.symm, h2⟩, rfl⟩)
    · refine .inr (.inr ⟨?_, rfl⟩); cases x; cases y; simp_all
theorem c_isNaN (a : Int) (w : World) : FC Try.prog 43 [.int .i64 a] w (Val (.bool false) w) := by
 refine FC.intro Try.func43 rfl Try.ntmps43 rfl ?_
 have S := Sub.refl w
 refine RC.seq (RC.region rfl ?_);refine RL.asS rfl ?_;refine RL.nil (RC.back (RC.seq (RC.region rfl ?_)));refine RL.mvS rfl ?_;refine RL.mvS rfl ?_;refine RL.eS (.as (v' := .bool false) (.bin rfl rfl rfl) (congrArg Value.bool (decide_eq_false (fun h => h rfl)))) ?_;refine RL.asS rfl ?_;refine RL.nil (RC.back ?_);refine RC.d1 2 rfl rfl rfl ?_
 exact ⟨rfl, S⟩
theorem c_compare (a b : Int) (w : World) : FC Try.prog 33 [.int .i64 a, .int .i64 b] w (Val (.int .i64 (cmpI a b)) w) := by
 refine FC.intro Try.func33 rfl Try.ntmps33 rfl ?_
 have S := Sub.refl w
 refine RC.seq (RC.region rfl ?_);refine RL.asS rfl ?_;refine RL.nil (RC.back (RC.seq (RC.region rfl ?_)));refine RL.mvS rfl ?_;refine RL.call rfl ok43 (c_isNaN a w) rfl rfl ?_;rintro _ w1 ⟨rfl, s2⟩;have S := S.trans s2;refine RL.asS rfl ?_;refine RL.nil (RC.back (RC.seq (RC.region rfl ?_)));refine RL.mvS rfl ?_;refine RL.call rfl ok43 (c_isNaN b w1) rfl rfl ?_;rintro _ w3 ⟨rfl, s4⟩;have S := S.trans s4;refine RL.asS rfl ?_;refine RL.nil (RC.back (RC.seq (RC.seq (RC.region rfl ?_))));refine RL.mvS rfl ?_;refine RL.nil (RC.back ?_);refine RC.cond_f rfl ?_;refine RC.skip (RC.back (RC.seq (RC.seq (RC.region rfl ?_))));refine RL.mvS rfl ?_;refine RL.nil (RC.back ?_);refine RC.cond_f rfl ?_;refine RC.skip (RC.back (RC.seq (RC.seq (RC.region rfl ?_))));refine RL.mvS rfl ?_;refine RL.mvS rfl ?_;refine RL.eS (.bin rfl rfl rfl) ?_;refine RL.nil (RC.back ?_);refine RC.cond_dec rfl (fun h5 => ?_) (fun h5 => ?_)
 ·
  have h16 : a < b := h5
  refine RC.seq (RC.region rfl ?_);refine RL.asS rfl ?_;refine RL.nil (RC.back ?_);refine RC.d1 4 rfl rfl rfl ?_
  rw [cmpI_lt h16]
  exact ⟨rfl, S⟩
 ·
  have h16 : ¬ a < b := h5
  refine RC.skip (RC.back (RC.seq (RC.seq (RC.region rfl ?_))));refine RL.mvS rfl ?_;refine RL.mvS rfl ?_;refine RL.eS (.bin rfl rfl rfl) ?_;refine RL.nil (RC.back ?_);refine RC.cond_dec rfl (fun h6 => ?_) (fun h6 => ?_)
  ·
   have h19 : b < a := h6
   refine RC.seq (RC.region rfl ?_);refine RL.asS rfl ?_;refine RL.nil (RC.back ?_);refine RC.d1 4 rfl rfl rfl ?_
   rw [cmpI_gt h19]
   exact ⟨rfl, S⟩
  ·
   have h19 : ¬ b < a := h6
   refine RC.skip (RC.back (RC.seq (RC.region rfl ?_)));refine RL.asS rfl ?_;refine RL.nil (RC.back ?_);refine RC.d1 4 rfl rfl rfl ?_
   rw [cmpI_eq (by omega)]
   exact ⟨rfl, S⟩
theorem c_or (x y : Int) (a : Option Addr) (c m : Nat) (hm : m = 2) (w : World) (hl : Sl w a 1 ([x, y].map fun x => [i6 x])) : FC Try.prog 32 [.slice a m c] w (Val (.int .i64 (if x = 0 then y else x)) w) := by
 subst hm
 refine FC.intro Try.func32 rfl Try.ntmps32 rfl ?_
 have S := Sub.refl w
 refine RC.seq (RC.region rfl ?_);refine RL.asS rfl ?_;refine RL.nil (RC.back (RC.seq (RC.region rfl ?_)));refine RL.asS rfl ?_;refine RL.nil (RC.back (RC.seq (RC.seq (RC.region rfl ?_))));refine RL.mvS rfl ?_;refine RL.eS (.len sl78 rfl) ?_;refine RL.mvS rfl ?_;refine RL.nil (RC.back (RC.block ?_));refine RC.loop (α := Nat) (fun i => [(3, .int .i64 0), (6, .slice a 2 c), (7, .int .i64 2), (8, .int .i64 (i : Int))]) (fun i w1 => (i ≤ 2 ∧ (1 ≤ i → x = 0) ∧ (2 ≤ i → y = 0)) ∧ Sub w w1) (fun i => 2 - i) 0 (keep_of (by repeat (first | exact trivial | refine And.intro rfl ?_))) (⟨⟨by omega, fun (h : 1 ≤ 0) => absurd h (by decide), fun (h : 2 ≤ 0) => absurd h (by decide)⟩, S⟩) (fun i w1 hJ => ?_)
 obtain ⟨⟨hi, hp1, hp2⟩, S⟩ := hJ
 refine RC.seq (RC.region rfl ?_);refine RL.eS (.bin rfl rfl rfl) ?_;refine RL.nil (RC.back (RC.seq ?_));refine RC.cond_dec rfl (fun h2 => ?_) (fun h2 => ?_)
 ·
  obtain ⟨z, hz⟩ := getSome (l := [x, y]) (i := i) (by show i < 2; omega)
  have hzz : (i = 0 ∧ z = x) ∨ (i = 1 ∧ z = y) := (by have hi2 : i = 0 ∨ i = 1 := (by omega); rcases hi2 with rfl | rfl; exact .inl ⟨rfl, by simpa using hz.symm⟩; exact .inr ⟨rfl, by simpa using hz.symm⟩)
  refine RC.skip (RC.back (RC.seq (RC.block (RC.seq (RC.region rfl ?_)))));refine RL.eS (.indexS sl78 rfl rfl (by omega) (hl.is (i := 0) (by simp only [List.length_map, List.length_cons, List.length_nil]; omega))) ?_;refine RL.eS (.load1 sh3 rfl ((hl.sub S).one (enc := i6) (i := i) hz)) ?_;refine RL.asS rfl ?_;refine RL.nil (RC.back (RC.seq (RC.region rfl ?_)));refine RL.mvS rfl ?_;refine RL.mvS rfl ?_;refine RL.eS (.bin rfl rfl rfl) ?_;refine RL.nil (RC.back ?_);refine RC.cond_dec rfl (fun h3 => ?_) (fun h3 => ?_)
  ·
   have h14 : ¬ z = 0 := h3
   refine RC.seq (RC.region rfl ?_);refine RL.mvS rfl ?_;refine RL.asS rfl ?_;refine RL.nil (RC.back ?_);refine RC.d1 2 rfl rfl rfl ?_
   rcases hzz with ⟨e, rfl⟩ | ⟨e, rfl⟩
   rw [if_neg h14]
   exact ⟨rfl, S⟩
   rw [if_pos (hp1 (by omega))]
   exact ⟨rfl, S⟩
  ·
   have h14 : z = 0 := Decidable.not_not.1 h3
   refine RC.skip (RC.back (RC.region rfl ?_));refine RL.eS (.as (.bin rfl rfl rfl) (wi64 (y := ((i + 1 : Nat) : Int)) (by omega) (by omega))) ?_;refine RL.mvS rfl ?_
   exact RL.nil (fun a ka => ⟨i + 1, ⟨⟨by omega, fun _ => by rcases hzz with ⟨e, e2⟩ | ⟨e, e2⟩; rw [← e2]; exact h14; exact hp1 (by omega), fun _ => by rcases hzz with ⟨e, e2⟩ | ⟨e, e2⟩; omega; rw [← e2]; exact h14⟩, S⟩, by omega, ka.keep (keep_of (by repeat (first | exact trivial | refine And.intro rfl ?_)))⟩)
 ·
  have hx0 := hp1 (by omega)
  have hy0 := hp2 (by omega)
  refine RC.exit rfl (RC.back (RC.seq (RC.region rfl ?_)));refine RL.mvS rfl ?_;refine RL.asS rfl ?_;refine RL.nil (RC.back ?_);refine RC.d1 2 rfl rfl rfl ?_
  rw [if_pos hx0, hy0]
  exact ⟨rfl, S⟩
theorem c_less (x y : It) (w : World) : FC Try.prog 22 [x.val, y.val] w (Val (.int .i64 (cmpIt x y)) w) := by
 refine FC.intro Try.func22 rfl Try.ntmps22 rfl ?_
 have S := Sub.refl w
 refine RC.seq (RC.region rfl ?_);refine RL.box rfl rfl rfl (fun b_2 w_2 e_2 z_2 hb_2 s_2 => ?_);have S := S.trans s_2
 have hb_2 : Has w_2 b_2 ([.int .i64 x.k, .int .i64 x.v]) _ := hb_2
 refine RL.box rfl rfl rfl (fun b_3 w_3 e_3 z_3 hb_3 s_3 => ?_);have S := S.trans s_3;have hb_2 := hb_2.sub s_3
 have hb_3 : Has w_3 b_3 ([.int .i64 y.k, .int .i64 y.v]) _ := hb_3
 refine RL.asS rfl ?_;refine RL.nil (RC.back (RC.seq ?_));refine RC.drawD (fun k => False) [] w_3.heap.size 13 rfl rfl mxo (fun w1 s2 => ?_)
 have hNN : ∀ k, ((False) ∨ w_3.heap.size ≤ k) → w.heap.size ≤ k := fun k e => e.elim (fun e => e.elim) (fun e => Nat.le_trans S.size e)
 have hN0 : ∀ k, w_3.heap.size ≤ k → w.heap.size ≤ k := fun k e => Nat.le_trans S.size e
 have ltD_b_2 := hb_2.lt;have ltD_b_3 := hb_3.lt;have szD := Nat.le_refl w_3.heap.size;have S := S.trans s2;have hb_2 := hb_2.sub s2;have hb_3 := hb_3.sub s2;have szD := Nat.le_trans szD s2.size;refine RD.tS 0 rfl (fun w' s' => .field0 fo47_0 rfl) ?_;refine RD.tS 1 rfl (fun w' s' => .load1 sh2 rfl ((hb_2.step s' (fun e => e.elim (fun e => e.elim) (fun e => Nat.not_le.2 ltD_b_2 e))).cell rfl)) ?_;refine RD.tS 2 rfl (fun w' s' => .field0 fo47_0 rfl) ?_;refine RD.tS 3 rfl (fun w' s' => .load1 sh2 rfl ((hb_3.step s' (fun e => e.elim (fun e => e.elim) (fun e => Nat.not_le.2 ltD_b_3 e))).cell rfl)) ?_;refine RD.tS 5 rfl (fun w' s' => .field0 fo47_1 rfl) ?_;refine RD.tS 6 rfl (fun w' s' => .load1 sh2 rfl ((hb_2.step s' (fun e => e.elim (fun e => e.elim) (fun e => Nat.not_le.2 ltD_b_2 e))).cell rfl)) ?_;refine RD.tS 7 rfl (fun w' s' => .field0 fo47_1 rfl) ?_;refine RD.tS 8 rfl (fun w' s' => .load1 sh2 rfl ((hb_3.step s' (fun e => e.elim (fun e => e.elim) (fun e => Nat.not_le.2 ltD_b_3 e))).cell rfl)) ?_;refine RD.oneS 4 rfl ?_;refine RL.call rfl ok33 (c_compare x.k y.k w1) rfl rfl ?_;rintro _ w3 ⟨rfl, s4⟩;have S := S.trans s4;have szD := Nat.le_trans szD s4.size;refine RD.back s4.agr ?_;refine RD.oneS 9 rfl ?_;refine RL.call rfl ok33 (c_compare x.v y.v w3) rfl rfl ?_;rintro _ w5 ⟨rfl, s6⟩;have S := S.trans s6;have szD := Nat.le_trans szD s6.size;refine RD.back s6.agr ?_;refine RD.oneS 10 rfl ?_;refine RL.buildSliceN (vs := [_, _]) sl78 _ ze3 rfl ⟨rfl, rfl, trivial⟩ rfl rfl rfl rfl rfl rfl (fun b_15 w_15 e_15 z_15 hb_15 s_15 => ?_)
 have fr_b_15 : w_3.heap.size ≤ b_15 := by rw [e_15]; exact szD
 have S := S.trans s_15;refine RD.back s_15.agr ?_;refine RD.oneS 11 rfl ?_;refine RL.call rfl ok32 (c_or (cmpI x.k y.k) (cmpI x.v y.v) _ _ _ rfl w_15 (Has.sl1 (enc := i6) (l := [cmpI x.k y.k, cmpI x.v y.v]) hb_15)) rfl rfl ?_;rintro _ w7 ⟨rfl, s8⟩;have S := S.trans s8;refine RD.back s8.agr ?_;refine RD.tS 12 rfl (fun w' s' => .assign rfl) ?_;refine RD.done (by kernel_rfl) (RC.back ?_);refine RC.d1 4 rfl rfl rfl ?_
 exact ⟨rfl, S⟩
theorem c_up (x y : It) (w : World) : FC Try.prog 16 [x.val, y.val] w (Val (.bool (decide (x.k < y.k))) w) := by
 refine FC.intro Try.func16 rfl Try.ntmps16 rfl ?_
 have S := Sub.refl w
 refine RC.seq (RC.region rfl ?_);refine RL.box rfl rfl rfl (fun b_2 w_2 e_2 z_2 hb_2 s_2 => ?_);have S := S.trans s_2
 have hb_2 : Has w_2 b_2 ([.int .i64 x.k, .int .i64 x.v]) _ := hb_2
 refine RL.box rfl rfl rfl (fun b_3 w_3 e_3 z_3 hb_3 s_3 => ?_);have S := S.trans s_3;have hb_2 := hb_2.sub s_3
 have hb_3 : Has w_3 b_3 ([.int .i64 y.k, .int .i64 y.v]) _ := hb_3
 refine RL.asS rfl ?_;refine RL.nil (RC.back (RC.seq (RC.region rfl ?_)));refine RL.eS (.field0 fo47_0 rfl) ?_;refine RL.eS (.load1 sh2 rfl (hb_2.cell rfl)) ?_;refine RL.eS (.field0 fo47_0 rfl) ?_;refine RL.eS (.load1 sh2 rfl (hb_3.cell rfl)) ?_;refine RL.eS (.bin rfl rfl rfl) ?_;refine RL.asS rfl ?_;refine RL.nil (RC.back ?_);refine RC.d1 4 rfl rfl rfl ?_
 exact ⟨rfl, S⟩
theorem c_le3 (x y : It) (w : World) : FC Try.prog 21 [x.val, y.val] w (Val (.bool (decide (¬ lessP y x))) w) := by
 have hc := cmpIt_cases x y
 refine FC.intro Try.func21 rfl Try.ntmps21 rfl ?_
 have S := Sub.refl w
 refine RC.seq (RC.region rfl ?_);refine RL.box rfl rfl rfl (fun b_2 w_2 e_2 z_2 hb_2 s_2 => ?_);have S := S.trans s_2
 have hb_2 : Has w_2 b_2 ([.int .i64 x.k, .int .i64 x.v]) _ := hb_2
 refine RL.box rfl rfl rfl (fun b_3 w_3 e_3 z_3 hb_3 s_3 => ?_);have S := S.trans s_3;have hb_2 := hb_2.sub s_3
 have hb_3 : Has w_3 b_3 ([.int .i64 y.k, .int .i64 y.v]) _ := hb_3
 refine RL.asS rfl ?_;refine RL.nil (RC.back (RC.seq (RC.region rfl ?_)));refine RL.eS (.loadR ([.int .i64 x.k, .int .i64 x.v]) sh47 rfl hb_2.row rfl) ?_;refine RL.eS (.loadR ([.int .i64 y.k, .int .i64 y.v]) sh47 rfl hb_3.row rfl) ?_;refine RL.call rfl ok22 (c_less x y w_3) rfl rfl ?_;rintro _ w1 ⟨rfl, s2⟩;have S := S.trans s2;refine RL.eS (.bin rfl rfl rfl) ?_;refine RL.asS rfl ?_;refine RL.nil (RC.back ?_);refine RC.d1 4 rfl rfl rfl ?_
 exact ⟨congrArg Value.bool (decide_eq_decide.2 (by unfold lessP at *; rcases hc with h | h | h <;> (try obtain ⟨rfl, h⟩ := h) <;> omega)), S⟩
def inK (x : It) : Prop := -1073741824 ≤ x.k ∧ x.k ≤ 1073741824
def keysP (nx : It → It → Bool) (l : List It) : Prop := (∀ x ∈ l, inK x) ∧ (∀ i x y, l[i]? = some x → l[i + 1]? = some y → nx x y = true) ∧ l.length ≤ 200
theorem c_keys (g : FuncId) (hg : calleeOK Try.prog g = true) (nx : It → It → Bool) (hn : ∀ x y w', FC Try.prog g [x.val, y.val] w' (Val (.bool (nx x y)) w')) (l : List It) (a : Option Addr) (c m : Nat) (hm : m = l.length) (w : World) (hl : Sl w a 2 (l.map It.cells)) (hb : l.length ≤ 1000000) :
  FC Try.prog 19 [.slice a m c, .func (.func g) #[] #[]] w (Val (.bool (pB (keysP nx l))) w) := by
 subst hm
 refine FC.intro Try.func19 rfl Try.ntmps19 rfl ?_
 have S := Sub.refl w
 refine RC.seq (RC.region rfl ?_);refine RL.asS rfl ?_;refine RL.nil (RC.back (RC.seq (RC.seq (RC.region rfl ?_))));refine RL.mvS rfl ?_;refine RL.eS (.len sl22 rfl) ?_;refine RL.mvS rfl ?_;refine RL.nil (RC.back (RC.block ?_));refine RC.loop (α := Nat) (fun i => [(0, .slice a l.length c), (1, .func (.func g) #[] #[]), (7, .slice a l.length c), (8, .int .i64 (l.length : Int)), (9, .int .i64 (i : Int))]) (fun i w1 => (i ≤ l.length ∧ (∀ x ∈ l.take i, inK x) ∧ ∀ j x y, j + 1 < i → l[j]? = some x → l[j + 1]? = some y → nx x y = true) ∧ Sub w w1) (fun i => l.length - i) 0 (keep_of (by repeat (first | exact trivial | refine And.intro rfl ?_))) (⟨⟨Nat.zero_le _, by simp, fun j x y h => absurd h (by omega)⟩, S⟩) (fun i w1 hJ => ?_)
 obtain ⟨⟨hi, hp1, hp2⟩, S⟩ := hJ
 refine RC.seq (RC.region rfl ?_);refine RL.eS (.bin rfl rfl rfl) ?_;refine RL.nil (RC.back (RC.seq ?_));refine RC.cond_dec rfl (fun h2 => ?_) (fun h2 => ?_)
 ·
  obtain ⟨x, hx⟩ := getSome (l := l) (i := i) (by omega)
  have hxm := List.mem_of_getElem? hx
  refine RC.skip (RC.back (RC.seq (RC.block (RC.seq (RC.region rfl ?_)))));refine RL.mvS rfl ?_;refine RL.eS (.indexS sl22 rfl rfl (by omega) (hl.is (i := 0) (by simp only [List.length_map, List.length_cons, List.length_nil]; omega))) ?_;refine RL.eS (.loadR ([.int .i64 x.k, .int .i64 x.v]) sh47 rfl ((hl.sub S).rowAt (enc := It.cells) (i := i) hx) rfl) ?_;refine RL.alloc ze47 rfl rfl (fun b_6 w_6 e_6 z_6 hb_6 s_6 => ?_);have ge_6 := S.le e_6;have S := S.trans s_6;refine RL.asS rfl ?_;refine RL.stS sh47 rfl rfl rfl hb_6 (fun w3 z3 hb_6 a3 => ?_);have S := S.upd a3 ge_6
  have hb_6 : Has w3 b_6 ([.int .i64 x.k, .int .i64 x.v]) _ := hb_6.now (by kernel_rfl)
  refine RL.nil (RC.back (RC.seq ?_));refine RC.draw rfl mxo (by kernel_rfl) ?_;refine RQ.ev (.field0 fo47_0 rfl) rfl rfl ?_;refine RQ.ev (.load1 sh2 rfl (hb_6.cell rfl)) rfl rfl ?_;refine RQ.ev (.bin rfl rfl rfl) rfl rfl ?_;refine RQ.ev (.move rfl) rfl rfl ?_;refine RQ.split 17 rfl (fun h4 => ?_) (fun h4 => ?_)
  ·
   have hno : ¬ keysP nx l := (fun h => by have := (h.1 x hxm).1; omega)
   refine RQ.oS ?_;refine RQ.oS ?_;refine RQ.oS ?_;refine RQ.ev (.pick_t rfl rfl) rfl rfl ?_;refine RQ.ev (.move rfl) rfl rfl ?_;refine RQ.oS ?_;refine RQ.oS ?_;refine RQ.oS ?_;refine RQ.oS ?_;refine RQ.oS ?_;refine RQ.oS ?_;refine RQ.oS ?_;refine RQ.oS ?_;refine RQ.oS ?_;refine RQ.oS ?_;refine RQ.oS ?_;refine RQ.oS ?_;refine RQ.oS ?_;refine RQ.ev (.pick_t rfl rfl) rfl rfl ?_;refine RQ.nil (fun w5 s6 => RC.back ?_);have S := S.trans s6;have hb_6 := hb_6.sub s6;refine RC.cond_t rfl ?_;refine RC.seq (RC.region rfl ?_);refine RL.asS rfl ?_;refine RL.nil (RC.back ?_);refine RC.d1 4 rfl rfl rfl ?_
   rw [pB_no hno]
   exact ⟨rfl, S⟩
  ·
   have h17 : -1073741824 ≤ x.k := (by omega)
   refine RQ.ev (.field0 fo47_0 rfl) rfl rfl ?_;refine RQ.ev (.load1 sh2 rfl (hb_6.cell rfl)) rfl rfl ?_;refine RQ.ev (.bin rfl rfl rfl) rfl rfl ?_;refine RQ.ev (.pick_f rfl rfl) rfl rfl ?_;refine RQ.ev (.move rfl) rfl rfl ?_;refine RQ.split 22 rfl (fun h7 => ?_) (fun h7 => ?_)
   ·
    have hno : ¬ keysP nx l := (fun h => by have := (h.1 x hxm).2; omega)
    refine RQ.oS ?_;refine RQ.oS ?_;refine RQ.oS ?_;refine RQ.oS ?_;refine RQ.oS ?_;refine RQ.oS ?_;refine RQ.oS ?_;refine RQ.oS ?_;refine RQ.oS ?_;refine RQ.oS ?_;refine RQ.oS ?_;refine RQ.oS ?_;refine RQ.oS ?_;refine RQ.ev (.pick_t rfl rfl) rfl rfl ?_;refine RQ.nil (fun w8 s9 => RC.back ?_);have S := S.trans s9;have hb_6 := hb_6.sub s9;refine RC.cond_t rfl ?_;refine RC.seq (RC.region rfl ?_);refine RL.asS rfl ?_;refine RL.nil (RC.back ?_);refine RC.d1 4 rfl rfl rfl ?_
    rw [pB_no hno]
    exact ⟨rfl, S⟩
   ·
    have h22 : x.k ≤ 1073741824 := (by omega)
    refine RQ.ev (.move rfl) rfl rfl ?_;refine RQ.ev (.bin rfl rfl rfl) rfl rfl ?_;refine RQ.ev (.move rfl) rfl rfl ?_;refine RQ.split 25 rfl (fun h10 => ?_) (fun h10 => ?_)
    ·
     obtain ⟨y, hy⟩ := getSome (l := l) (i := i - 1) (by omega)
     have hxi : l[i - 1 + 1]? = some x := (by rw [show i - 1 + 1 = i by omega]; exact hx)
     refine RQ.ev (.move rfl) rfl rfl ?_;refine RQ.ev (.move rfl) rfl rfl ?_;refine RQ.ev (.move rfl) rfl rfl ?_;refine RQ.ev (.as (.bin rfl rfl rfl) (wi64 (y := ((i - 1 : Nat) : Int)) (by omega) (by omega))) rfl rfl ?_;refine RQ.ev (.indexS sl22 rfl rfl (by omega) (hl.is (i := 0) (by simp only [List.length_map, List.length_cons, List.length_nil]; omega))) rfl rfl ?_;refine RQ.ev (.loadR ([.int .i64 y.k, .int .i64 y.v]) sh47 rfl ((hl.sub S).rowAt (enc := It.cells) (i := i - 1) hy) rfl) rfl rfl ?_;refine RQ.ev (.loadR ([.int .i64 x.k, .int .i64 x.v]) sh47 rfl hb_6.row rfl) rfl rfl ?_;refine RQ.callv rfl rfl (us := []) (cs := []) hg (fun w' s' => hn y x w') rfl rfl ?_;refine RQ.ev (.not rfl) rfl rfl ?_;refine RQ.ev (.pick_t rfl rfl) rfl rfl ?_;refine RQ.ev (.pick_f rfl rfl) rfl rfl ?_;refine RQ.nil (fun w11 s12 => RC.back ?_);have S := S.trans s12;refine RC.cond rfl (fun h13 => ?_) (fun h13 => ?_)
     ·
      have hno : ¬ keysP nx l := (fun h => by have q := h.2.1 _ y x hy hxi; have q2 := h13; simp [q] at q2)
      refine RC.seq (RC.region rfl ?_);refine RL.asS rfl ?_;refine RL.nil (RC.back ?_);refine RC.d1 4 rfl rfl rfl ?_
      rw [pB_no hno]
      exact ⟨rfl, S⟩
     ·
      have hyx : nx y x = true := (by simpa using h13)
      refine RC.skip (RC.back (RC.region rfl ?_));refine RL.eS (.as (.bin rfl rfl rfl) (wi64 (y := ((i + 1 : Nat) : Int)) (by omega) (by omega))) ?_;refine RL.mvS rfl ?_
      exact RL.nil (fun a ka => ⟨i + 1, ⟨⟨by omega, fun z hz => by rw [List.take_add_one, hx] at hz; rcases List.mem_append.1 hz with hz | hz; exact hp1 z hz; have e : z = x := (by simpa using hz); rw [e]; exact ⟨h17, h22⟩, fun j z u hj hz hu => by rcases Nat.lt_or_ge (j + 1) i with q | q; exact hp2 j z u q hz hu; obtain rfl : j = i - 1 := (by omega); rw [hy] at hz; rw [hxi] at hu; cases hz; cases hu; exact hyx⟩, S⟩, by omega, ka.keep (keep_of (by repeat (first | exact trivial | refine And.intro rfl ?_)))⟩)
    ·
     have h25 : i = 0 := (by omega)
     refine RQ.oS ?_;refine RQ.oS ?_;refine RQ.oS ?_;refine RQ.oS ?_;refine RQ.oS ?_;refine RQ.oS ?_;refine RQ.oS ?_;refine RQ.oS ?_;refine RQ.oS ?_;refine RQ.ev (.pick_f rfl rfl) rfl rfl ?_;refine RQ.ev (.pick_f rfl rfl) rfl rfl ?_;refine RQ.nil (fun w14 s15 => RC.back ?_);have S := S.trans s15;refine RC.cond_f rfl ?_;refine RC.skip (RC.back (RC.region rfl ?_));refine RL.eS (.as (.bin rfl rfl rfl) (wi64 (y := ((i + 1 : Nat) : Int)) (by omega) (by omega))) ?_;refine RL.mvS rfl ?_
     exact RL.nil (fun a ka => ⟨i + 1, ⟨⟨by omega, fun z hz => by rw [List.take_add_one, hx] at hz; rcases List.mem_append.1 hz with hz | hz; exact hp1 z hz; have e : z = x := (by simpa using hz); rw [e]; exact ⟨h17, h22⟩, fun j z u hj hz hu => absurd hj (by omega)⟩, S⟩, by omega, ka.keep (keep_of (by repeat (first | exact trivial | refine And.intro rfl ?_)))⟩)
 ·
  obtain rfl : i = l.length := (by omega)
  rw [List.take_length] at hp1
  refine RC.exit rfl (RC.back (RC.seq (RC.region rfl ?_)));refine RL.mvS rfl ?_;refine RL.eS (.len sl22 rfl) ?_;refine RL.eS (.bin rfl rfl rfl) ?_;refine RL.asS rfl ?_;refine RL.nil (RC.back ?_);refine RC.d1 4 rfl rfl rfl ?_
  exact ⟨congrArg Value.bool (by rw [Bool.eq_iff_iff, decide_eq_true_iff, pB_iff]; exact ⟨fun h => ⟨hp1, fun j x y h1 h2 => hp2 j x y (lt_of_get h2) h1 h2, by omega⟩, fun h => by have := h.2.2; omega⟩), S⟩
def crowdL (l : List It) (key : Int) : Nat := (l.filter fun x => decide (hashOf x.k = hashOf key)).length
theorem crowdL_step {l : List It} {i : Nat} {x : It} (h : l[i]? = some x) (key : Int) : crowdL (l.take (i + 1)) key = crowdL (l.take i) key + if hashOf x.k = hashOf key then 1 else 0 := by
  unfold crowdL
  rw [filter_take h, List.length_append]
  by_cases q : hashOf x.k = hashOf key
  · rw [if_pos (by simpa using q), if_pos q]; rfl
  · rw [if_neg (by simpa using q), if_neg q]; rfl
theorem crowdL_le (l : List It) (key : Int) : crowdL l key ≤ l.length := List.length_filter_le _ _
theorem c_crowd (l : List It) (a : Option Addr) (c m : Nat) (hm : m = l.length) (key : Int) (w : World) (hl : Sl w a 2 (l.map It.cells)) (hb : l.length ≤ 1000000) :
  FC Try.prog 18 [.slice a m c, .int .i64 key] w (Val (.int .i64 (crowdL l key : Int)) w) := by
 subst hm
 refine FC.intro Try.func18 rfl Try.ntmps18 rfl ?_
 have S := Sub.refl w
 refine RC.seq (RC.region rfl ?_);refine RL.asS rfl ?_;refine RL.nil (RC.back (RC.seq (RC.region rfl ?_)));refine RL.asS rfl ?_;refine RL.nil (RC.back (RC.seq (RC.seq (RC.region rfl ?_))));refine RL.mvS rfl ?_;refine RL.eS (.len sl22 rfl) ?_;refine RL.mvS rfl ?_;refine RL.nil (RC.back (RC.block ?_));refine RC.loop (α := Nat × Nat) (fun x => [(1, .int .i64 key), (5, .int .i64 (x.2 : Int)), (8, .slice a l.length c), (9, .int .i64 (l.length : Int)), (10, .int .i64 (x.1 : Int))]) (fun x w1 => (x.1 ≤ l.length ∧ x.2 = crowdL (l.take x.1) key) ∧ Sub w w1) (fun x => l.length - x.1) (0, 0) (keep_of (by repeat (first | exact trivial | refine And.intro rfl ?_))) (⟨⟨Nat.zero_le _, rfl⟩, S⟩) (fun x w1 hJ => ?_)
 obtain ⟨i, n⟩ := x; obtain ⟨⟨hi, hn⟩, S⟩ := hJ; simp only [] at hi hn
 refine RC.seq (RC.region rfl ?_);refine RL.eS (.bin rfl rfl rfl) ?_;refine RL.nil (RC.back (RC.seq ?_));refine RC.cond_dec rfl (fun h2 => ?_) (fun h2 => ?_)
 ·
  obtain ⟨x, hx⟩ := getSome (l := l) (i := i) (by omega)
  have hst := crowdL_step hx key
  have hcl := crowdL_le (l.take i) key
  rw [List.length_take] at hcl
  refine RC.skip (RC.back (RC.seq (RC.block (RC.seq (RC.region rfl ?_)))));refine RL.eS (.indexS sl22 rfl rfl (by omega) (hl.is (i := 0) (by simp only [List.length_map, List.length_cons, List.length_nil]; omega))) ?_;refine RL.eS (.loadR ([.int .i64 x.k, .int .i64 x.v]) sh47 rfl ((hl.sub S).rowAt (enc := It.cells) (i := i) hx) rfl) ?_;refine RL.alloc ze47 rfl rfl (fun b_7 w_7 e_7 z_7 hb_7 s_7 => ?_);have ge_7 := S.le e_7;have S := S.trans s_7;refine RL.stS sh47 rfl rfl rfl hb_7 (fun w3 z3 hb_7 a3 => ?_);have S := S.upd a3 ge_7
  have hb_7 : Has w3 b_7 ([.int .i64 x.k, .int .i64 x.v]) _ := hb_7.now (by kernel_rfl)
  refine RL.nil (RC.back (RC.seq (RC.region rfl ?_)));refine RL.eS (.field0 fo47_0 rfl) ?_;refine RL.eS (.load1 sh2 rfl (hb_7.cell rfl)) ?_;refine RL.call rfl ok30 (c_hash x.k w3) rfl rfl ?_;rintro _ w4 ⟨rfl, s5⟩;have S := S.trans s5;refine RL.mvS rfl ?_;refine RL.call rfl ok30 (c_hash key w4) rfl rfl ?_;rintro _ w6 ⟨rfl, s7⟩;have S := S.trans s7;refine RL.eS (.bin rfl rfl rfl) ?_;refine RL.nil (RC.back ?_);refine RC.cond_dec rfl (fun h8 => ?_) (fun h8 => ?_)
  ·
   have h19 : hashOf x.k = hashOf key := (by have := h8; omega)
   rw [if_pos h19] at hst
   refine RC.region rfl ?_;refine RL.mvS rfl ?_;refine RL.eS (.as (.bin rfl rfl rfl) (wi64 (y := ((n + 1 : Nat) : Int)) (by omega) (by omega))) ?_;refine RL.asS rfl ?_;refine RL.nil (RC.back (RC.region rfl ?_));refine RL.eS (.as (.bin rfl rfl rfl) (wi64 (y := ((i + 1 : Nat) : Int)) (by omega) (by omega))) ?_;refine RL.mvS rfl ?_
   exact RL.nil (fun a ka => ⟨(i + 1, n + 1), ⟨⟨by omega, by show n + 1 = crowdL (l.take (i + 1)) key; omega⟩, S⟩, by omega, ka.keep (keep_of (by repeat (first | exact trivial | refine And.intro rfl ?_)))⟩)
  ·
   have h19 : ¬ hashOf x.k = hashOf key := (by have := h8; omega)
   rw [if_neg h19] at hst
   refine RC.skip (RC.back (RC.region rfl ?_));refine RL.eS (.as (.bin rfl rfl rfl) (wi64 (y := ((i + 1 : Nat) : Int)) (by omega) (by omega))) ?_;refine RL.mvS rfl ?_
   exact RL.nil (fun a ka => ⟨(i + 1, n), ⟨⟨by omega, by show n = crowdL (l.take (i + 1)) key; omega⟩, S⟩, by omega, ka.keep (keep_of (by repeat (first | exact trivial | refine And.intro rfl ?_)))⟩)
 ·
  obtain rfl : i = l.length := (by omega)
  rw [List.take_length] at hn
  refine RC.exit rfl (RC.back (RC.seq (RC.region rfl ?_)));refine RL.mvS rfl ?_;refine RL.asS rfl ?_;refine RL.nil (RC.back ?_);refine RC.d1 4 rfl rfl rfl ?_
  rw [← hn]
  exact ⟨rfl, S⟩
theorem c_clone (l : List It) (a : Option Addr) (c m : Nat) (hm : m = l.length) (w : World) (hl : Sl w a 2 (l.map It.cells)) (hb : l.length ≤ 1000000) :
  FC Try.prog 48 [.slice a m c] w (fun u w' => ∃ a' c', u = .slice a' l.length c' ∧ Ows w.heap.size w' 47 2 (.slice a' l.length c') (l.map It.cells) ∧ Sub w w') := by
 subst hm
 refine FC.intro Try.func48 rfl Try.ntmps48 rfl ?_
 have S := Sub.refl w
 refine RC.seq (RC.region rfl ?_);refine RL.asS rfl ?_;refine RL.nil (RC.back (RC.seq (RC.seq (RC.region rfl ?_))));refine RL.mvS rfl ?_;refine RL.eS (.eqNil sl22 rfl) ?_;refine RL.nil (RC.back ?_);refine RC.cond rfl (fun h1 => ?_) (fun h1 => ?_)
 ·
  have h4 := h1
  have hnil : l = [] := (by refine Classical.byContradiction fun e => ?_; have q := hl.some (by simpa using e); cases a <;> simp at h4 q)
  refine RC.seq (RC.region rfl ?_);refine RL.asS rfl ?_;refine RL.nil (RC.back ?_);refine RC.d1 2 rfl rfl rfl ?_
  subst hnil
  exact ⟨none, 0, rfl, Ows.nil _ _ _ _, S⟩
 ·
  have h4 := h1
  refine RC.skip (RC.back (RC.seq (RC.region rfl ?_)));refine RL.buildSlice0 sl22 rfl rfl (fun b_5 w_5 e_5 z_5 hb_5 s_5 => ?_);have S := S.trans s_5;refine RL.mvS rfl ?_;have sz_7 := S.size
  have ltb_5_7 := hb_5.lt
  refine RL.append2 (base := w.heap.size) (rows := []) (news := l.map It.cells) sl22 ze47 rfl rfl rfl rfl (.inl (Ows.lit0 hb_5 (by omega))) (hl.sub S) (by (try simp only [List.length_map]); first | done | rfl) (by intro r hr; obtain ⟨x, _, rfl⟩ := List.mem_map.1 hr; rfl) (by rw [List.all_eq_true]; intro r hr; obtain ⟨x, _, rfl⟩ := List.mem_map.1 hr; rfl) (by (try simp only [List.length_map, List.length_nil, List.length_append, List.length_cons]); omega) (by (try simp only [List.length_map, List.length_nil, List.length_append, List.length_cons]); omega) (by omega) rfl rfl (fun v_7 w_7 hc_7 ho_7 ag_7 ob_7 => ?_)
  have o7 := ho_7 (.inr (Ows.lit0 hb_5 (by omega)))
  have S := S.agrN ag_7 (fun k e => Nat.le_trans (by omega) e.2)
  obtain ⟨a_7, c_7, rfl, k_7⟩ := o7.form
  refine RL.asS rfl ?_;refine RL.nil (RC.back ?_);refine RC.d1 2 rfl rfl rfl ?_
  rw [List.nil_append, List.length_map] at o7
  exact ⟨_, _, by rw [List.nil_append, List.length_map]; rfl, o7, S⟩
theorem it_plain (l : List It) : (l.map It.cells).all (fun r => r.all plainV) = true := by rw [List.all_eq_true]; intro r hr; obtain ⟨x, _, rfl⟩ := List.mem_map.1 hr; rfl
theorem wh_sl {w : World} {g : Nat} {e : TypeId} {l : List It} {ex : List (List Value)} (h : Has w g (l.map It.cells ++ ex).flatten e) : Sl w (some ⟨g, 0, none⟩) 2 (l.map It.cells) := Has.sl (extra := ex.flatten) (by rw [← List.flatten_append]; exact h) it_rows
theorem c_delete (l : List It) (g i : Nat) (ex : List (List Value)) (hex : ∀ r ∈ ex, r.length = 2) (hcap : l.length + ex.length ≤ 9223372036854775807) (hi : i < l.length) (w : World) (hg : Has w g (l.map It.cells ++ ex).flatten 47) :
  FC Try.prog 47 [.slice (some ⟨g, 0, none⟩) l.length (l.length + ex.length), .int .i64 (i : Int), .int .i64 ((i + 1 : Nat) : Int)] w (fun u w' => u = .slice (some ⟨g, 0, none⟩) (l.length - 1) (l.length + ex.length) ∧ (∃ R : List (List Value), Has w' g R.flatten 47 ∧ (∀ r ∈ R, r.length = 2) ∧ R.take (l.length - 1) = (l.take i ++ l.drop (i + 1)).map It.cells) ∧ Agr (· = g) w w') := by
 have hR : ∀ r ∈ l.map It.cells ++ ex, r.length = 2 := fun r hr => (List.mem_append.1 hr).elim (it_rows r) (hex r)
 have hS : Sl w (some ⟨g, 0, none⟩) 2 (l.map It.cells) := Has.sl (extra := ex.flatten) (by rw [← List.flatten_append]; exact hg) it_rows
 have hRl : (l.map It.cells ++ ex).length = l.length + ex.length := by rw [List.length_append, List.length_map]
 have G : Agr (· = g) w w := Agr.refl _ _
 have hD : ((l.drop (i + 1)).map It.cells).length = l.length - (i + 1) := by rw [List.length_map, List.length_drop]
 have e1 : i + (l.length - (i + 1)) = l.length - 1 := by omega
 have hB1 := blit_take (R := l.map It.cells ++ ex) (l := (l.drop (i + 1)).map It.cells) (o := i) (by omega)
 have hBl := blit_len (R := l.map It.cells ++ ex) (l := (l.drop (i + 1)).map It.cells) (o := i) (by omega)
 have hBr := blit_rows (s := 2) (R := l.map It.cells ++ ex) (l := (l.drop (i + 1)).map It.cells) (o := i) hR it_rows
 rw [hD, e1] at hB1
 have hTk : (l.map It.cells ++ ex).take i = (l.take i).map It.cells := by rw [List.take_append_of_le_length (by rw [List.length_map]; omega), List.map_take]
 refine FC.intro Try.func47 rfl Try.ntmps47 rfl ?_
 refine RC.seq (RC.region rfl ?_);refine RL.asS rfl ?_;refine RL.nil (RC.back (RC.seq (RC.region rfl ?_)));refine RL.mvS rfl ?_;refine RL.mvS rfl ?_;refine RL.mvS rfl ?_;refine RL.mvS rfl ?_;refine RL.eS (.len sl22 rfl) ?_;refine RL.eS (.sliceLHM sl22 rfl rfl rfl rfl (by omega)) ?_;refine RL.nil (RC.back (RC.seq (RC.seq (RC.region rfl ?_))));refine RL.mvS rfl ?_;refine RL.mvS rfl ?_;refine RL.eS (.bin rfl rfl rfl) ?_;refine RL.nil (RC.back ?_);refine RC.cond_dec rfl (fun h1 => ?_) (fun h1 => ?_)
 ·
  exact absurd h1 (by omega)
 ·
  refine RC.skip (RC.back (RC.seq (RC.region rfl ?_)));refine RL.mvS rfl ?_;refine RL.eS (.len sl22 rfl) ?_;refine RL.asS rfl ?_;refine RL.nil (RC.back (RC.seq ?_));refine RC.drawD (fun k => k = g) [6] w.heap.size 8 rfl rfl mxo (fun w2 s3 => ?_);have hg := hg.sub s3;have G := G.trans s3.agr;refine RD.tS 0 rfl (fun w' s' => .move rfl) ?_;refine RD.tS 1 rfl (fun w' s' => .move rfl) ?_;refine RD.tS 2 rfl (fun w' s' => .sliceHi sl22 rfl rfl (by omega)) ?_;refine RD.tS 3 rfl (fun w' s' => .move rfl) ?_;refine RD.tS 4 rfl (fun w' s' => .move rfl) ?_;refine RD.tS 5 rfl (fun w' s' => .sliceLo sl22 rfl rfl (by omega)) ?_;refine RD.oneS 6 rfl ?_;refine RL.appendB (R := l.map It.cells ++ ex) (l := (l.drop (i + 1)).map It.cells) (o := i) (k := l.length - (i + 1)) (c := l.length + ex.length) sl22 rfl rfl rfl hg hR (by omega) (by omega) (slDropM (wh_sl hg) (i + 1) (by omega)) hD.symm it_rows (it_plain _) rfl rfl (fun w4 z26 hg a26 => ?_)
  rw [e1]
  have G := G.trans a26;refine RD.backW rfl (a26.mono fun k _ e => .inl e) ?_;refine RD.tS 7 rfl (fun w' s' => .assign rfl) ?_;refine RD.done (by kernel_rfl) (RC.back ?_);refine RC.seq (RC.region rfl ?_);refine RL.mvS rfl ?_;refine RL.mvS rfl ?_;refine RL.eS (.len sl22 rfl) ?_;refine RL.mvS rfl ?_;refine RL.eS (.as (v' := .slice (some ⟨g, (l.length - 1) * 2, none⟩) 1 (ex.length + 1)) (.sliceLH sl22 rfl rfl rfl (by omega)) (by rw [sl_at (by omega)]; congr 1 <;> omega)) ?_;refine RL.clearB (R := blit (l.map It.cells ++ ex) i ((l.drop (i + 1)).map It.cells)) (o := l.length - 1) (m := 1) sl22 ze47 rfl rfl rfl rfl hg hBr (by omega) rfl rfl (fun w5 z31 hg a31 => ?_);have G := G.trans a31;refine RL.nil (RC.back (RC.seq (RC.region rfl ?_)));refine RL.mvS rfl ?_;refine RL.asS rfl ?_;refine RL.nil (RC.back ?_);refine RC.d1 6 rfl rfl rfl ?_
  refine ⟨rfl, ⟨_, hg, blit_rows hBr (fun r hr => by rw [(List.mem_replicate.1 hr).2]; rfl), ?_⟩, G⟩
  rw [(blit_take (by rw [hBl, List.length_replicate]; omega)).1, hB1.2, hTk, ← List.map_append]
theorem Has.ftW {w : World} {b : Nat} {cs : List Value} {e : TypeId} (h : Has w b cs e) : Ft (· = b) (fun u => Has u b cs e) w := ⟨fun k hk => hk ▸ h.lt, fun u a => h.step a (fun hn => hn rfl)⟩
theorem c_insertEnd (l : List It) (x : It) (base : Nat) (sa : Option Addr) (sc bv : Nat) (w : World) (ov : Ows base w 47 2 (.slice sa l.length sc) (l.map It.cells)) (hbase : base ≤ w.heap.size) (hb : l.length ≤ 1000000) (hv : Sl w (some ⟨bv, 0, none⟩) 2 ([x].map It.cells)) :
  FC Try.prog 50 [.slice sa l.length sc, .int .i64 (l.length : Int), .slice (some ⟨bv, 0, none⟩) 1 1] w (fun u w' => ∃ a' c' M, u = .slice a' (l.length + 1) c' ∧ l.length + 1 ≤ c' ∧ Ft M (fun u => Sl u a' 2 ((l ++ [x]).map It.cells)) w' ∧ (∀ k, M k → base ≤ k) ∧ Agr (fun k => ob (.slice sa l.length sc) = some k) w w') := by
 have G : Agr (fun k => ob (.slice sa l.length sc) = some k) w w := Agr.refl _ _
 refine FC.intro Try.func50 rfl Try.ntmps50 rfl ?_
 refine RC.seq (RC.region rfl ?_);refine RL.asS rfl ?_;refine RL.nil (RC.back (RC.seq (RC.region rfl ?_)));refine RL.mvS rfl ?_;refine RL.mvS rfl ?_;refine RL.eS (.sliceLo sl22 rfl rfl (by omega)) ?_;refine RL.nil (RC.back (RC.seq (RC.region rfl ?_)));refine RL.mvS rfl ?_;refine RL.eS (.len sl22 rfl) ?_;refine RL.asS rfl ?_;refine RL.nil (RC.back (RC.seq (RC.seq (RC.region rfl ?_))));refine RL.mvS rfl ?_;refine RL.eS (.bin rfl rfl rfl) ?_;refine RL.nil (RC.back ?_);refine RC.cond_dec rfl (fun h1 => ?_) (fun h1 => ?_)
 ·
  exact absurd h1 (by decide)
 ·
  refine RC.skip (RC.back (RC.seq (RC.region rfl ?_)));refine RL.mvS rfl ?_;refine RL.eS (.len sl22 rfl) ?_;refine RL.asS rfl ?_;refine RL.nil (RC.back (RC.seq (RC.seq (RC.region rfl ?_))));refine RL.mvS rfl ?_;refine RL.mvS rfl ?_;refine RL.eS (.bin rfl rfl rfl) ?_;refine RL.nil (RC.back ?_);refine RC.cond_dec rfl (fun h2 => ?_) (fun h2 => ?_)
  ·
   refine RC.seq (RC.region rfl ?_);refine RL.mvS rfl ?_;refine RL.mvS rfl ?_;have szG_25 := G.size;refine RL.append2 (base := base) (rows := l.map It.cells) (news := [x].map It.cells) sl22 ze47 rfl rfl rfl rfl (.inl ov) hv (by (try simp only [List.length_map]); first | done | rfl) (by intro r hr; obtain ⟨x, _, rfl⟩ := List.mem_map.1 hr; rfl) (by rw [List.all_eq_true]; intro r hr; obtain ⟨x, _, rfl⟩ := List.mem_map.1 hr; rfl) (by (try simp only [List.length_map, List.length_nil, List.length_append, List.length_cons]); omega) (by (try simp only [List.length_map, List.length_nil, List.length_append, List.length_cons]); omega) (by omega) rfl rfl (fun v_25 w_25 hc_25 ho_25 ag_25 ob_25 => ?_)
   have o25 := ho_25 (.inr ov)
   have G := G.trans (ag_25.mono fun k _ e => e.1)
   obtain ⟨a_25, c_25, rfl, k_25⟩ := o25.form
   refine RL.asS rfl ?_;refine RL.nil (RC.back ?_);refine RC.d1 6 rfl rfl rfl ?_
   rw [← List.map_append, List.length_map, List.length_append, List.length_singleton] at o25
   exact ⟨_, _, _, by rw [← List.map_append, List.length_map, List.length_append, List.length_singleton]; rfl, by have q := k_25; rw [List.length_append, List.length_map, List.length_map, List.length_singleton] at q; exact q, o25.ft.imp (fun u h => h.sl.1), fun k hk => (o25.ge k hk).1, G⟩
  ·
   exact absurd rfl h2
theorem ins_take {R D : List (List Value)} {x : List Value} {i n : Nat} (hn : n = i + 1 + D.length) (h : n ≤ R.length) : (blit (blit R (i + 1) D) i [x]).take n = R.take i ++ [x] ++ D := by
  have h1 : i + 1 + D.length ≤ R.length := by omega
  have hl := blit_len h1
  subst hn
  unfold blit
  have e1 : (R.take (i + 1) ++ D ++ R.drop (i + 1 + D.length)).take i = R.take i := by
    rw [List.append_assoc, List.take_append_of_le_length (by rw [List.length_take]; omega), List.take_take, Nat.min_eq_left (by omega)]
  have e2 : (R.take (i + 1) ++ D ++ R.drop (i + 1 + D.length)).drop (i + [x].length) = D ++ R.drop (i + 1 + D.length) := by
    have q : (R.take (i + 1)).length = i + 1 := by rw [List.length_take]; omega
    rw [List.append_assoc, List.length_singleton]
    exact List.drop_left' q
  rw [e1, e2, ← List.append_assoc]
  refine (List.take_append_of_le_length ?_).trans (List.take_of_length_le ?_) <;> (simp only [List.length_append, List.length_take, List.length_singleton]; omega)
theorem c_insertMid (l : List It) (x : It) (g i : Nat) (ex : List (List Value)) (bv : Nat) (hex : ∀ r ∈ ex, r.length = 2) (hcap : l.length + ex.length ≤ 9223372036854775807) (hll : l.length ≤ 1000000) (hi : i < l.length) (w : World) (hg : Has w g (l.map It.cells ++ ex).flatten 47) (hv : Has w bv x.cells 47) (hne : bv ≠ g) :
  FC Try.prog 50 [.slice (some ⟨g, 0, none⟩) l.length (l.length + ex.length), .int .i64 (i : Int), .slice (some ⟨bv, 0, none⟩) 1 1] w (fun u w' => ∃ a' c' M, u = .slice a' (l.length + 1) c' ∧ l.length + 1 ≤ c' ∧ Ft M (fun u => Sl u a' 2 ((l.take i ++ x :: l.drop i).map It.cells)) w' ∧ (∀ k, M k → k = g ∨ w.heap.size ≤ k) ∧ Agr (fun k => k = g) w w') := by
 have hR : ∀ r ∈ l.map It.cells ++ ex, r.length = 2 := fun r hr => (List.mem_append.1 hr).elim (it_rows r) (hex r)
 have hRl : (l.map It.cells ++ ex).length = l.length + ex.length := by rw [List.length_append, List.length_map]
 have G : Agr (fun k => k = g) w w := Agr.refl _ _
 have ltg := hg.lt
 have ltv := hv.lt
 have hTk : (l.map It.cells ++ ex).take i = (l.take i).map It.cells := by rw [List.take_append_of_le_length (by rw [List.length_map]; omega), List.map_take]
 have hDl : ((l.drop i).map It.cells).length = l.length - i := by rw [List.length_map, List.length_drop]
 have hm1 : min 1 (l.length + 1 - i) = 1 := by omega
 have hm2 : min (l.length - i) (l.length - i) = l.length - i := by omega
 have hm3 : min (l.length + 1 - i) (l.length - i) = l.length - i := by omega
 have hx2 : ∀ r ∈ [x.cells], r.length = 2 := fun r hr => by rw [List.mem_singleton.1 hr]; rfl
 have hfin : ((l.take i).map It.cells ++ [x.cells] ++ (l.drop i).map It.cells) = (l.take i ++ x :: l.drop i).map It.cells := by simp
 have hDt : ((l.drop i).map It.cells).take (l.length - i) = (l.drop i).map It.cells := List.take_of_length_le (by omega)
 have hRd : (((l.map It.cells ++ ex).drop i).take (l.length + 1 - i)).take (l.length - i) = (l.drop i).map It.cells := by
  rw [List.take_take, Nat.min_eq_left (by omega), List.drop_append_of_le_length (by rw [List.length_map]; omega), List.take_append_of_le_length (by rw [List.length_drop, List.length_map]; omega), ← List.map_drop, hDt]
 refine FC.intro Try.func50 rfl Try.ntmps50 rfl ?_
 refine RC.seq (RC.region rfl ?_);refine RL.asS rfl ?_;refine RL.nil (RC.back (RC.seq (RC.region rfl ?_)));refine RL.mvS rfl ?_;refine RL.mvS rfl ?_;refine RL.eS (.sliceLo sl22 rfl rfl (by omega)) ?_;refine RL.nil (RC.back (RC.seq (RC.region rfl ?_)));refine RL.mvS rfl ?_;refine RL.eS (.len sl22 rfl) ?_;refine RL.asS rfl ?_;refine RL.nil (RC.back (RC.seq (RC.seq (RC.region rfl ?_))));refine RL.mvS rfl ?_;refine RL.eS (.bin rfl rfl rfl) ?_;refine RL.nil (RC.back ?_);refine RC.cond_dec rfl (fun h1 => ?_) (fun h1 => ?_)
 ·
  exact absurd h1 (by decide)
 ·
  refine RC.skip (RC.back (RC.seq (RC.region rfl ?_)));refine RL.mvS rfl ?_;refine RL.eS (.len sl22 rfl) ?_;refine RL.asS rfl ?_;refine RL.nil (RC.back (RC.seq (RC.seq (RC.region rfl ?_))));refine RL.mvS rfl ?_;refine RL.mvS rfl ?_;refine RL.eS (.bin rfl rfl rfl) ?_;refine RL.nil (RC.back ?_);refine RC.cond_dec rfl (fun h2 => ?_) (fun h2 => ?_)
  ·
   exact absurd h2 (by omega)
  ·
   refine RC.skip (RC.back (RC.seq (RC.seq (RC.region rfl ?_))));refine RL.mvS rfl ?_;refine RL.mvS rfl ?_;refine RL.eS (.as (.bin rfl rfl rfl) (wi64 (y := ((l.length + 1 : Nat) : Int)) (by omega) (by omega))) ?_;refine RL.mvS rfl ?_;refine RL.eS (.cap sl22 rfl) ?_;refine RL.eS (.bin rfl rfl rfl) ?_;refine RL.nil (RC.back ?_);refine RC.cond_dec rfl (fun h3 => ?_) (fun h3 => ?_)
   ·
    have h31 : l.length + ex.length < l.length + 1 := (by omega)
    have nbv_g : bv ≠ g := by exact hne
    refine RC.seq (RC.region rfl ?_);refine RL.mvS rfl ?_;refine RL.mvS rfl ?_;refine RL.eS (.sliceHi sl22 rfl rfl (by omega)) ?_;refine RL.mvS rfl ?_;refine RL.mvS rfl ?_;refine RL.eS (.as (.bin rfl rfl rfl) (wi64 (y := ((l.length + 1 : Nat) : Int)) (by omega) (by omega))) ?_;refine RL.mvS rfl ?_;refine RL.eS (.as (.bin rfl rfl rfl) (wi64 (y := ((l.length + 1 - i : Nat) : Int)) (by omega) (by omega))) ?_;refine RL.appendZ (o := i) (k := l.length + 1 - i) (c := l.length + ex.length) (R := l.map It.cells ++ ex) sl22 Try.underlying3 ze47 rfl rfl rfl rfl hg hR (by omega) (by omega) (by omega) (by omega) (by omega) rfl rfl (fun b_9 w4 cap9 ex9 e_9 hc9 hb_9 hcx9 s9 => ?_)
    have hn9 : i + (l.length + 1 - i) = l.length + 1 := (by omega)
    rw [hn9] at hc9 hcx9 ⊢
    have nb_9_g : b_9 ≠ g := by rw [e_9]; exact fun e => by rw [e] at ltg; omega
    have nb_9_bv : b_9 ≠ bv := by rw [e_9]; exact fun e => by rw [e] at ltv; omega
    have geG_9 := agLe G e_9
    have hg := hg.sub s9;have hv := hv.sub s9;have G := G.trans s9.agr
    obtain ⟨R9, hq9⟩ : ∃ R9, R9 = (l.map It.cells ++ ex).take i ++ List.replicate (l.length + 1 - i) [Value.int .i64 0, .int .i64 0] ++ List.replicate ex9 [Value.int .i64 0, .int .i64 0] := ⟨_, rfl⟩
    have hb_9 : Has w4 b_9 R9.flatten _ := (by rw [hq9]; exact hb_9)
    have hR9l : R9.length = l.length + 1 + ex9 := (by rw [hq9, List.length_append, List.length_append, List.length_take, List.length_replicate, List.length_replicate]; omega)
    have hR9t : R9.take i = (l.take i).map It.cells := (by rw [hq9, List.append_assoc, List.take_append_of_le_length (by rw [List.length_take]; omega), List.take_take, Nat.min_self, hTk])
    have hR9 : ∀ r ∈ R9, r.length = 2 := (fun r hr => by rw [hq9] at hr; rcases List.mem_append.1 hr with hr | hr; rcases List.mem_append.1 hr with hr | hr; exact hR r (List.mem_of_mem_take hr); rw [(List.mem_replicate.1 hr).2]; rfl; rw [(List.mem_replicate.1 hr).2]; rfl)
    refine RL.asS rfl ?_;refine RL.nil (RC.back (RC.seq (RC.region rfl ?_)));refine RL.mvS rfl ?_;refine RL.mvS rfl ?_;refine RL.eS (.as (v' := .slice (some ⟨b_9, i * 2, none⟩) (l.length + 1 - i) (cap9 - i)) (.sliceLo sl22 rfl rfl (by omega)) (by rw [sl_at (by omega)]; rfl)) ?_;refine RL.mvS rfl ?_;refine RL.copyB (o := i) (k := 1) (m := l.length + 1 - i) (R := R9) (l := [x.cells]) sl22 rfl rfl rfl hb_9 hR9 (by omega) (Has.sl0 (rows := [x.cells]) (by simpa using hv) hx2) rfl hx2 (by rw [hm1]; rfl) rfl rfl (fun w5 z45 hb_9 a45 => ?_);have hg := hg.upd a45 nb_9_g.symm;have hv := hv.upd a45 nb_9_bv.symm
    have G := agNew G a45 geG_9
    rw [hm1] at hb_9
    have hb_9 : Has w5 b_9 (blit R9 i [x.cells]).flatten _ := hb_9
    have hBl := blit_len (R := R9) (l := [x.cells]) (o := i) (by simp; omega)
    have hBr := blit_rows (s := 2) (o := i) hR9 hx2
    refine RL.nil (RC.back (RC.seq ?_));refine RC.drawD (fun k => k = b_9) [8] w5.heap.size 9 rfl rfl mxo (fun w6 s7 => ?_);have hg := hg.sub s7;have hv := hv.sub s7;have G := G.trans s7.agr;have hb_9 := hb_9.sub s7;refine RD.tS 0 rfl (fun w' s' => .move rfl) ?_;refine RD.tS 1 rfl (fun w' s' => .move rfl) ?_;refine RD.tS 2 rfl (fun w' s' => .move rfl) ?_;refine RD.tS 3 rfl (fun w' s' => .as (.bin rfl rfl rfl) (wi64 (y := ((i + 1 : Nat) : Int)) (by omega) (by omega))) ?_;refine RD.tS 4 rfl (fun w' s' => .as (v' := .slice (some ⟨b_9, (i + 1) * 2, none⟩) (l.length - i) (cap9 - (i + 1))) (.sliceLo sl22 rfl rfl (by omega)) (by rw [sl_at (by omega)]; congr 1 <;> omega)) ?_;refine RD.tS 5 rfl (fun w' s' => .move rfl) ?_;refine RD.tS 6 rfl (fun w' s' => .move rfl) ?_;refine RD.tS 7 rfl (fun w' s' => .sliceLo sl22 rfl rfl (by omega)) ?_;refine RD.oneS 8 rfl ?_;refine RL.copyB (o := i + 1) (k := l.length - i) (m := l.length - i) (R := blit R9 i [x.cells]) (l := (l.drop i).map It.cells) sl22 rfl rfl rfl hb_9 hBr (by omega) (slDropM (wh_sl hg) i (by omega)) hDl.symm it_rows (by rw [hm2, hDt]; exact it_plain _) rfl rfl (fun w8 z54 hb_9 a54 => ?_);have hg := hg.upd a54 nb_9_g.symm;have hv := hv.upd a54 nb_9_bv.symm
    have G := agNew G a54 geG_9
    rw [hm2, hDt] at hb_9
    refine RD.backW rfl (a54.mono fun k _ e => .inl e) ?_;refine RD.done (by kernel_rfl) (RC.back ?_);refine RC.seq (RC.region rfl ?_);refine RL.mvS rfl ?_;refine RL.asS rfl ?_;refine RL.nil (RC.back ?_);refine RC.d1 6 rfl rfl rfl ?_
    have q := (Has.ftW hb_9).imp (fun u h => Has.slN h (blit_rows hBr it_rows) (i + 1 + (l.length - i)))
    have q2 := (blit_take (R := blit R9 i [x.cells]) (l := (l.drop i).map It.cells) (o := i + 1) (by omega)).2
    rw [hDl] at q2
    have q3 : (blit R9 i [x.cells]).take (i + 1) = _ := (blit_take (R := R9) (l := [x.cells]) (o := i) (by simp; omega)).2
    rw [q2, q3, hR9t, hfin] at q
    exact ⟨_, _, _, rfl, hc9, q, fun k hk => .inr (by rw [hk]; exact geG_9), G⟩
   ·
    have h31 : 1 ≤ ex.length := (by omega)
    have nbv_g : bv ≠ g := by exact hne
    refine RC.skip (RC.back (RC.seq (RC.region rfl ?_)));refine RL.mvS rfl ?_;refine RL.mvS rfl ?_;refine RL.mvS rfl ?_;refine RL.eS (.as (.bin rfl rfl rfl) (wi64 (y := ((l.length + 1 : Nat) : Int)) (by omega) (by omega))) ?_;refine RL.eS (.sliceHi sl22 rfl rfl (by omega)) ?_;refine RL.asS rfl ?_;refine RL.nil (RC.back (RC.seq (RC.seq (RC.region rfl ?_))));refine RL.mvS rfl ?_;refine RL.mvS rfl ?_;refine RL.mvS rfl ?_;refine RL.mvS rfl ?_;refine RL.eS (.as (.bin rfl rfl rfl) (wi64 (y := ((i + 1 : Nat) : Int)) (by omega) (by omega))) ?_;refine RL.eS (.as (v' := .slice (some ⟨g, (i + 1) * 2, none⟩) (l.length - i) (l.length + ex.length - (i + 1))) (.sliceLo sl22 rfl rfl (by omega)) (by rw [sl_at (by omega)]; congr 1 <;> omega)) ?_;refine RL.overlapsF (tR := 4) (a := ⟨bv, 0, none⟩) (b := ⟨g, (i + 1) * 2, none⟩) rfl rfl rfl (by kernel_rfl) (by kernel_rfl) sl22 rfl rfl hv hg hne (fun e => by have q := congrArg List.length e; rw [flat_len _ hR, hRl] at q; simp at q; omega) rfl rfl ?_;refine RL.eS (.not rfl) ?_;refine RL.nil (RC.back ?_);refine RC.cond_t rfl ?_;refine RC.seq ?_;refine RC.drawD (fun k => k = g) [8] w.heap.size 9 rfl rfl mxo (fun w10 s11 => ?_);have hg := hg.sub s11;have hv := hv.sub s11;have G := G.trans s11.agr;refine RD.tS 0 rfl (fun w' s' => .move rfl) ?_;refine RD.tS 1 rfl (fun w' s' => .move rfl) ?_;refine RD.tS 2 rfl (fun w' s' => .move rfl) ?_;refine RD.tS 3 rfl (fun w' s' => .as (.bin rfl rfl rfl) (wi64 (y := ((i + 1 : Nat) : Int)) (by omega) (by omega))) ?_;refine RD.tS 4 rfl (fun w' s' => .as (v' := .slice (some ⟨g, (i + 1) * 2, none⟩) (l.length - i) (l.length + ex.length - (i + 1))) (.sliceLo sl22 rfl rfl (by omega)) (by rw [sl_at (by omega)]; congr 1 <;> omega)) ?_;refine RD.tS 5 rfl (fun w' s' => .move rfl) ?_;refine RD.tS 6 rfl (fun w' s' => .move rfl) ?_;refine RD.tS 7 rfl (fun w' s' => .as (v' := .slice (some ⟨g, i * 2, none⟩) (l.length + 1 - i) (l.length + ex.length - i)) (.sliceLo sl22 rfl rfl (by omega)) (by rw [sl_at (by omega)]; rfl)) ?_;refine RD.oneS 8 rfl ?_;refine RL.copyB (o := i + 1) (k := l.length + 1 - i) (m := l.length - i) (R := l.map It.cells ++ ex) (l := ((l.map It.cells ++ ex).drop i).take (l.length + 1 - i)) sl22 rfl rfl rfl hg hR (by omega) ((sl_drop_at (hg.sl0 hR) i).take _) (by rw [List.length_take, List.length_drop]; omega) (fun r hr => hR r (List.mem_of_mem_drop (List.mem_of_mem_take hr))) (by rw [hm3, hRd]; exact it_plain _) rfl rfl (fun w12 z77 hg a77 => ?_);have hv := hv.upd a77 nbv_g;have G := G.trans a77
    rw [hm3, hRd] at hg
    have hB1l := blit_len (R := l.map It.cells ++ ex) (l := (l.drop i).map It.cells) (o := i + 1) (by omega)
    have hB1r := blit_rows (s := 2) (o := i + 1) hR (it_rows (l := l.drop i))
    refine RD.backW rfl (a77.mono fun k _ e => .inl e) ?_;refine RD.done (by kernel_rfl) (RC.back ?_);refine RC.seq (RC.region rfl ?_);refine RL.mvS rfl ?_;refine RL.mvS rfl ?_;refine RL.eS (.as (v' := .slice (some ⟨g, i * 2, none⟩) (l.length + 1 - i) (l.length + ex.length - i)) (.sliceLo sl22 rfl rfl (by omega)) (by rw [sl_at (by omega)]; rfl)) ?_;refine RL.mvS rfl ?_;refine RL.copyB (o := i) (k := 1) (m := l.length + 1 - i) (R := blit (l.map It.cells ++ ex) (i + 1) ((l.drop i).map It.cells)) (l := [x.cells]) sl22 rfl rfl rfl hg hB1r (by omega) (Has.sl0 (rows := [x.cells]) (by simpa using hv) hx2) rfl hx2 (by rw [hm1]; rfl) rfl rfl (fun w13 z82 hg a82 => ?_);have G := G.trans a82
    rw [hm1] at hg
    have hg : Has w13 g (blit (blit (l.map It.cells ++ ex) (i + 1) ((l.drop i).map It.cells)) i [x.cells]).flatten _ := hg
    refine RL.nil (RC.back (RC.seq (RC.region rfl ?_)));refine RL.mvS rfl ?_;refine RL.asS rfl ?_;refine RL.nil (RC.back ?_);refine RC.d1 6 rfl rfl rfl ?_
    have q := (Has.ftW hg).imp (fun u h => Has.slN h (blit_rows hB1r hx2) (l.length + 1))
    rw [ins_take (by omega) (by omega), hTk, hfin] at q
    exact ⟨_, _, _, rfl, by omega, q, fun k hk => .inl hk, G⟩
theorem c_insert (l : List It) (x : It) (base : Nat) (sa : Option Addr) (sc bv i : Nat) (w : World) (ov : Ows base w 47 2 (.slice sa l.length sc) (l.map It.cells)) (hbase : base ≤ w.heap.size) (hb : sc ≤ 9223372036854775807) (hl : l.length ≤ 1000000) (hi : i ≤ l.length) (hv : Has w bv x.cells 47) (hne : ∀ k, ob (.slice sa l.length sc) = some k → k ≠ bv) :
    FC Try.prog 50 [.slice sa l.length sc, .int .i64 (i : Int), .slice (some ⟨bv, 0, none⟩) 1 1] w (fun u w' => ∃ a' c' M, u = .slice a' (l.length + 1) c' ∧ l.length + 1 ≤ c' ∧ Ft M (fun u => Sl u a' 2 ((l.take i ++ x :: l.drop i).map It.cells)) w' ∧ (∀ k, M k → base ≤ k) ∧ Agr (fun k => ob (.slice sa l.length sc) = some k) w w') := by
  by_cases h : i = l.length
  · subst h
    refine FC.mono (c_insertEnd l x base sa sc bv w ov hbase hl (Has.sl0 (rows := [x].map It.cells) (by simpa using hv) it_rows)) (fun u w' ⟨a', c', M, h1, h0, h2, h4, h3⟩ => ⟨a', c', M, h1, h0, ?_, h4, h3⟩)
    rw [List.take_length, List.drop_length]; exact h2
  · obtain ⟨g, ex, e1, e2, e3, e4, e5⟩ := ov.whole.resolve_left (fun q => by have := congrArg List.length q.2; simp only [List.length_map, List.length_nil] at this; omega)
    rw [List.length_map] at e1
    injection e1 with f1 f2 f3
    subst f1 f3
    refine FC.mono (c_insertMid l x g i ex bv e4 hb hl (by omega) w e3 hv (fun e => hne g rfl e.symm)) (fun u w' ⟨a', c', M, h1, h0, h2, h4, h3⟩ => ⟨a', c', M, h1, h0, h2, fun k hk => (h4 k hk).elim (fun e => by rw [e]; exact e2) (fun e => Nat.le_trans hbase e), h3.mono fun k _ e => by rw [e]; rfl⟩)
theorem half_conv {n : Nat} (h : n ≤ 2000000) : IntKind.i64.wrap ((IntKind.u64.wrap (n : Int)).fdiv (2 ^ min (Int.toNat 1) IntKind.u64.bits)) = ((n / 2 : Nat) : Int) := by
  have e : (2 : Int) ^ min (Int.toNat 1) IntKind.u64.bits = 2 := rfl
  rw [wrap_u64 (by omega), e, Int.fdiv_eq_ediv_of_nonneg _ (by decide), wrap_i64 (by omega)]
  omega
theorem c_bsf (g : FuncId) (hg : calleeOK Try.prog g = true) (key : Int) (cf : It → Int) (hn : ∀ x w', FC Try.prog g [x.val, .int .i64 key] w' (Val (.int .i64 (cf x)) w')) (l : List It) (hmono : ∀ (i j : Nat) (x y : It), i ≤ j → l[i]? = some x → l[j]? = some y → cf y < 0 → cf x < 0) (a : Option Addr) (c m : Nat) (hm : m = l.length) (w : World) (hl : Sl w a 2 (l.map It.cells)) (hb : l.length ≤ 1000000) :
  FC Try.prog 44 [.slice a m c, .int .i64 key, .func (.func g) #[] #[]] w (fun u w' => Sub w w' ∧ ∃ n : Nat, n ≤ l.length ∧ u = .tuple #[.int .i64 (n : Int), .bool (pB (∃ x, l[n]? = some x ∧ cf x = 0))] ∧ (∀ k x, k < n → l[k]? = some x → cf x < 0) ∧ ∀ k x, n ≤ k → l[k]? = some x → ¬ cf x < 0) := by
 subst hm
 refine FC.intro Try.func44 rfl Try.ntmps44 rfl ?_
 have S := Sub.refl w
 refine RC.seq (RC.region rfl ?_);refine RL.asS rfl ?_;refine RL.asS rfl ?_;refine RL.nil (RC.back (RC.seq (RC.region rfl ?_)));refine RL.mvS rfl ?_;refine RL.eS (.len sl22 rfl) ?_;refine RL.asS rfl ?_;refine RL.nil (RC.back (RC.seq (RC.region rfl ?_)));refine RL.mvS rfl ?_;refine RL.asS rfl ?_;refine RL.asS rfl ?_;refine RL.nil (RC.back (RC.seq (RC.block ?_)));refine RC.loop (α := Nat × Nat) (fun x => [(0, .slice a l.length c), (1, .int .i64 key), (2, .func (.func g) #[] #[]), (8, .int .i64 (l.length : Int)), (9, .int .i64 (x.1 : Int)), (10, .int .i64 (x.2 : Int))]) (fun x w1 => (x.1 ≤ x.2 ∧ x.2 ≤ l.length ∧ (∀ k z, k < x.1 → l[k]? = some z → cf z < 0) ∧ ∀ k z, x.2 ≤ k → l[k]? = some z → ¬ cf z < 0) ∧ Sub w w1) (fun x => x.2 - x.1) (0, l.length) (keep_of (by repeat (first | exact trivial | refine And.intro rfl ?_))) (⟨⟨Nat.zero_le _, Nat.le_refl _, fun k z h _ => absurd h (Nat.not_lt_zero _), fun k z h e => absurd (lt_of_get e) (Nat.not_lt.2 h)⟩, S⟩) (fun x w1 hJ => ?_)
 obtain ⟨i, j⟩ := x; obtain ⟨⟨hij, hj, hp1, hp2⟩, S⟩ := hJ; simp only [] at hij hj hp1 hp2
 refine RC.seq (RC.seq (RC.region rfl ?_));refine RL.mvS rfl ?_;refine RL.mvS rfl ?_;refine RL.eS (.bin rfl rfl rfl) ?_;refine RL.nil (RC.back ?_);refine RC.cond_dec rfl (fun h2 => ?_) (fun h2 => ?_)
 ·
  have h17 : i < j := (by omega)
  obtain ⟨x, hx⟩ := getSome (l := l) (i := (i + j) / 2) (by omega)
  refine RC.skip (RC.back (RC.block (RC.seq (RC.region rfl ?_))));refine RL.mvS rfl ?_;refine RL.mvS rfl ?_;refine RL.eS (.as (.bin rfl rfl rfl) (wi64 (y := ((i + j : Nat) : Int)) (by omega) (by omega))) ?_;refine RL.eS (.conv i3 i88 rfl) ?_;refine RL.eS (.shr rfl rfl (by decide)) ?_;refine RL.eS (.as (v' := .int .i64 (((i + j) / 2 : Nat) : Int)) (.conv i88 i3 rfl) (by rw [half_conv (by omega)])) ?_;refine RL.asS rfl ?_;refine RL.nil (RC.back (RC.seq (RC.region rfl ?_)));refine RL.mvS rfl ?_;refine RL.mvS rfl ?_;refine RL.mvS rfl ?_;refine RL.eS (.indexS sl22 rfl rfl (by omega) (hl.is (i := 0) (by simp only [List.length_map, List.length_cons, List.length_nil]; omega))) ?_;refine RL.eS (.loadR ([.int .i64 x.k, .int .i64 x.v]) sh47 rfl ((hl.sub S).rowAt (enc := It.cells) (i := (i + j) / 2) hx) rfl) ?_;refine RL.mvS rfl ?_;refine RL.callv rfl rfl (us := []) (cs := []) hg (hn x w1) rfl rfl ?_;rintro _ w3 ⟨rfl, s4⟩;have S := S.trans s4;refine RL.eS (.bin rfl rfl rfl) ?_;refine RL.nil (RC.back ?_);refine RC.cond_dec rfl (fun h5 => ?_) (fun h5 => ?_)
  ·
   have h31 : cf x < 0 := h5
   refine RC.region rfl ?_;refine RL.mvS rfl ?_;refine RL.eS (.as (.bin rfl rfl rfl) (wi64 (y := (((i + j) / 2 + 1 : Nat) : Int)) (by omega) (by omega))) ?_;refine RL.asS rfl ?_
   exact RL.nil (fun a ka => ⟨((i + j) / 2 + 1, j), ⟨⟨by omega, hj, fun k z hk hz => hmono k _ z x (by omega) hz hx h31, hp2⟩, S⟩, by omega, ka.keep (keep_of (by repeat (first | exact trivial | refine And.intro rfl ?_)))⟩)
  ·
   have h31 : ¬ cf x < 0 := h5
   refine RC.region rfl ?_;refine RL.mvS rfl ?_;refine RL.asS rfl ?_
   exact RL.nil (fun a ka => ⟨(i, (i + j) / 2), ⟨⟨by omega, by omega, hp1, fun k z hk hz hlt => h31 (hmono _ k x z hk hx hz hlt)⟩, S⟩, by omega, ka.keep (keep_of (by repeat (first | exact trivial | refine And.intro rfl ?_)))⟩)
 ·
  have h17 : i = j := (by omega)
  subst h17
  refine RC.exit rfl (RC.back (RC.seq (RC.region rfl ?_)));refine RL.mvS rfl ?_;refine RL.mvS rfl ?_;refine RL.mvS rfl ?_;refine RL.eS (.bin rfl rfl rfl) ?_;refine RL.mvS rfl ?_;refine RL.split 39 rfl (fun h6 => ?_) (fun h6 => ?_)
  ·
   have h39 : i < l.length := (by omega)
   obtain ⟨y, hy⟩ := getSome (l := l) (i := i) h39
   refine RL.mvS rfl ?_;refine RL.mvS rfl ?_;refine RL.mvS rfl ?_;refine RL.eS (.indexS sl22 rfl rfl (by omega) (hl.is (i := 0) (by simp only [List.length_map, List.length_cons, List.length_nil]; omega))) ?_;refine RL.eS (.loadR ([.int .i64 y.k, .int .i64 y.v]) sh47 rfl ((hl.sub S).rowAt (enc := It.cells) (i := i) hy) rfl) ?_;refine RL.mvS rfl ?_;refine RL.callv rfl rfl (us := []) (cs := []) hg (hn y w1) rfl rfl ?_;rintro _ w7 ⟨rfl, s8⟩;have S := S.trans s8;refine RL.eS (.bin rfl rfl rfl) ?_;refine RL.eS (.pick_t rfl rfl) ?_;refine RL.asS rfl ?_;refine RL.asS rfl ?_;refine RL.nil (RC.back ?_);refine RC.done (rs := [.tmp 6, .tmp 7]) (vs := [_, _]) rfl rfl ⟨rfl, rfl, trivial⟩ ?_
   refine ⟨S, i, by omega, ?_, hp1, hp2⟩
   rw [show pB (∃ x, l[i]? = some x ∧ cf x = 0) = decide (cf y = 0) from by rw [Bool.eq_iff_iff, pB_iff, decide_eq_true_iff]; exact ⟨fun ⟨x, h1, h2⟩ => by rw [hy] at h1; cases h1; exact h2, fun h => ⟨y, hy, h⟩⟩]
   rfl
  ·
   have h39 : i = l.length := (by omega)
   refine RL.offs 8 rfl ?_;refine RL.eS (.pick_f rfl rfl) ?_;refine RL.asS rfl ?_;refine RL.asS rfl ?_;refine RL.nil (RC.back ?_);refine RC.done (rs := [.tmp 6, .tmp 7]) (vs := [_, _]) rfl rfl ⟨rfl, rfl, trivial⟩ ?_
   refine ⟨S, i, by omega, ?_, hp1, hp2⟩
   rw [pB_no (fun ⟨x, h1, _⟩ => absurd (lt_of_get h1) (by omega))]
   rfl
theorem c_bsf2 (g : FuncId) (hg : calleeOK Try.prog g = true) (key : It) (cf : It → Int) (hn : ∀ x w', FC Try.prog g [x.val, key.val] w' (Val (.int .i64 (cf x)) w')) (l : List It) (hmono : ∀ (i j : Nat) (x y : It), i ≤ j → l[i]? = some x → l[j]? = some y → cf y < 0 → cf x < 0) (a : Option Addr) (c m : Nat) (hm : m = l.length) (w : World) (hl : Sl w a 2 (l.map It.cells)) (hb : l.length ≤ 1000000) :
  FC Try.prog 52 [.slice a m c, key.val, .func (.func g) #[] #[]] w (fun u w' => Sub w w' ∧ ∃ n : Nat, n ≤ l.length ∧ u = .tuple #[.int .i64 (n : Int), .bool (pB (∃ x, l[n]? = some x ∧ cf x = 0))] ∧ (∀ k x, k < n → l[k]? = some x → cf x < 0) ∧ ∀ k x, n ≤ k → l[k]? = some x → ¬ cf x < 0) := by
 subst hm
 refine FC.intro Try.func52 rfl Try.ntmps52 rfl ?_
 have S := Sub.refl w
 refine RC.seq (RC.region rfl ?_);refine RL.box rfl rfl rfl (fun b_4 w_4 e_4 z_4 hb_4 s_4 => ?_);have S := S.trans s_4
 have hb_4 : Has w_4 b_4 ([.int .i64 key.k, .int .i64 key.v]) _ := hb_4
 refine RL.asS rfl ?_;refine RL.asS rfl ?_;refine RL.nil (RC.back (RC.seq (RC.region rfl ?_)));refine RL.mvS rfl ?_;refine RL.eS (.len sl22 rfl) ?_;refine RL.asS rfl ?_;refine RL.nil (RC.back (RC.seq (RC.region rfl ?_)));refine RL.mvS rfl ?_;refine RL.asS rfl ?_;refine RL.asS rfl ?_;refine RL.nil (RC.back (RC.seq (RC.block ?_)));refine RC.loop (α := Nat × Nat) (fun x => [(0, .slice a l.length c), (2, .func (.func g) #[] #[]), (4, .pointer (some ⟨b_4, 0, none⟩)), (8, .int .i64 (l.length : Int)), (9, .int .i64 (x.1 : Int)), (10, .int .i64 (x.2 : Int))]) (fun x w1 => (x.1 ≤ x.2 ∧ x.2 ≤ l.length ∧ (∀ k z, k < x.1 → l[k]? = some z → cf z < 0) ∧ ∀ k z, x.2 ≤ k → l[k]? = some z → ¬ cf z < 0) ∧ Has w1 b_4 [.int .i64 key.k, .int .i64 key.v] 47 ∧ Sub w w1) (fun x => x.2 - x.1) (0, l.length) (keep_of (by repeat (first | exact trivial | refine And.intro rfl ?_))) (⟨⟨Nat.zero_le _, Nat.le_refl _, fun k z h _ => absurd h (Nat.not_lt_zero _), fun k z h e => absurd (lt_of_get e) (Nat.not_lt.2 h)⟩, hb_4, S⟩) (fun x w1 hJ => ?_)
 obtain ⟨i, j⟩ := x; obtain ⟨⟨hij, hj, hp1, hp2⟩, hb_4, S⟩ := hJ; simp only [] at hij hj hp1 hp2
 refine RC.seq (RC.seq (RC.region rfl ?_));refine RL.mvS rfl ?_;refine RL.mvS rfl ?_;refine RL.eS (.bin rfl rfl rfl) ?_;refine RL.nil (RC.back ?_);refine RC.cond_dec rfl (fun h2 => ?_) (fun h2 => ?_)
 ·
  have h17 : i < j := (by omega)
  obtain ⟨x, hx⟩ := getSome (l := l) (i := (i + j) / 2) (by omega)
  refine RC.skip (RC.back (RC.block (RC.seq (RC.region rfl ?_))));refine RL.mvS rfl ?_;refine RL.mvS rfl ?_;refine RL.eS (.as (.bin rfl rfl rfl) (wi64 (y := ((i + j : Nat) : Int)) (by omega) (by omega))) ?_;refine RL.eS (.conv i3 i88 rfl) ?_;refine RL.eS (.shr rfl rfl (by decide)) ?_;refine RL.eS (.as (v' := .int .i64 (((i + j) / 2 : Nat) : Int)) (.conv i88 i3 rfl) (by rw [half_conv (by omega)])) ?_;refine RL.asS rfl ?_;refine RL.nil (RC.back (RC.seq ?_));refine RC.draw rfl mxo (by kernel_rfl) ?_;refine RQ.ev (.move rfl) rfl rfl ?_;refine RQ.ev (.move rfl) rfl rfl ?_;refine RQ.ev (.move rfl) rfl rfl ?_;refine RQ.ev (.indexS sl22 rfl rfl (by omega) (hl.is (i := 0) (by simp only [List.length_map, List.length_cons, List.length_nil]; omega))) rfl rfl ?_;refine RQ.ev (.loadR ([.int .i64 x.k, .int .i64 x.v]) sh47 rfl ((hl.sub S).rowAt (enc := It.cells) (i := (i + j) / 2) hx) rfl) rfl rfl ?_;refine RQ.ev (.loadR ([.int .i64 key.k, .int .i64 key.v]) sh47 rfl hb_4.row rfl) rfl rfl ?_;refine RQ.callv rfl rfl (us := []) (cs := []) hg (fun w' s' => hn x w') rfl rfl ?_;refine RQ.ev (.bin rfl rfl rfl) rfl rfl ?_;refine RQ.nil (fun w3 s4 => RC.back ?_);have S := S.trans s4;have hb_4 := hb_4.sub s4;refine RC.cond_dec rfl (fun h5 => ?_) (fun h5 => ?_)
  ·
   have h31 : cf x < 0 := h5
   refine RC.region rfl ?_;refine RL.mvS rfl ?_;refine RL.eS (.as (.bin rfl rfl rfl) (wi64 (y := (((i + j) / 2 + 1 : Nat) : Int)) (by omega) (by omega))) ?_;refine RL.asS rfl ?_
   exact RL.nil (fun a ka => ⟨((i + j) / 2 + 1, j), ⟨⟨by omega, hj, fun k z hk hz => hmono k _ z x (by omega) hz hx h31, hp2⟩, hb_4, S⟩, by omega, ka.keep (keep_of (by repeat (first | exact trivial | refine And.intro rfl ?_)))⟩)
  ·
   have h31 : ¬ cf x < 0 := h5
   refine RC.region rfl ?_;refine RL.mvS rfl ?_;refine RL.asS rfl ?_
   exact RL.nil (fun a ka => ⟨(i, (i + j) / 2), ⟨⟨by omega, by omega, hp1, fun k z hk hz hlt => h31 (hmono _ k x z hk hx hz hlt)⟩, hb_4, S⟩, by omega, ka.keep (keep_of (by repeat (first | exact trivial | refine And.intro rfl ?_)))⟩)
 ·
  have h17 : i = j := (by omega)
  subst h17
  refine RC.exit rfl (RC.back (RC.seq ?_));refine RC.draw rfl mxo (by kernel_rfl) ?_;refine RQ.ev (.move rfl) rfl rfl ?_;refine RQ.ev (.move rfl) rfl rfl ?_;refine RQ.ev (.move rfl) rfl rfl ?_;refine RQ.ev (.bin rfl rfl rfl) rfl rfl ?_;refine RQ.ev (.move rfl) rfl rfl ?_;refine RQ.split 39 rfl (fun h6 => ?_) (fun h6 => ?_)
  ·
   have h39 : i < l.length := (by omega)
   obtain ⟨y, hy⟩ := getSome (l := l) (i := i) h39
   refine RQ.ev (.move rfl) rfl rfl ?_;refine RQ.ev (.move rfl) rfl rfl ?_;refine RQ.ev (.move rfl) rfl rfl ?_;refine RQ.ev (.indexS sl22 rfl rfl (by omega) (hl.is (i := 0) (by simp only [List.length_map, List.length_cons, List.length_nil]; omega))) rfl rfl ?_;refine RQ.ev (.loadR ([.int .i64 y.k, .int .i64 y.v]) sh47 rfl ((hl.sub S).rowAt (enc := It.cells) (i := i) hy) rfl) rfl rfl ?_;refine RQ.ev (.loadR ([.int .i64 key.k, .int .i64 key.v]) sh47 rfl hb_4.row rfl) rfl rfl ?_;refine RQ.callv rfl rfl (us := []) (cs := []) hg (fun w' s' => hn y w') rfl rfl ?_;refine RQ.ev (.bin rfl rfl rfl) rfl rfl ?_;refine RQ.ev (.pick_t rfl rfl) rfl rfl ?_;refine RQ.ev (.assign rfl) rfl rfl ?_;refine RQ.ev (.assign rfl) rfl rfl ?_;refine RQ.nil (fun w7 s8 => RC.back ?_);have S := S.trans s8;refine RC.done (rs := [.tmp 6, .tmp 7]) (vs := [_, _]) rfl rfl ⟨rfl, rfl, trivial⟩ ?_
   refine ⟨S, i, by omega, ?_, hp1, hp2⟩
   rw [show pB (∃ x, l[i]? = some x ∧ cf x = 0) = decide (cf y = 0) from by rw [Bool.eq_iff_iff, pB_iff, decide_eq_true_iff]; exact ⟨fun ⟨x, h1, h2⟩ => by rw [hy] at h1; cases h1; exact h2, fun h => ⟨y, hy, h⟩⟩]
   rfl
  ·
   have h39 : i = l.length := (by omega)
   refine RQ.oS ?_;refine RQ.oS ?_;refine RQ.oS ?_;refine RQ.oS ?_;refine RQ.oS ?_;refine RQ.oS ?_;refine RQ.oS ?_;refine RQ.oS ?_;refine RQ.ev (.pick_f rfl rfl) rfl rfl ?_;refine RQ.ev (.assign rfl) rfl rfl ?_;refine RQ.ev (.assign rfl) rfl rfl ?_;refine RQ.nil (fun w9 s10 => RC.back ?_);have S := S.trans s10;refine RC.done (rs := [.tmp 6, .tmp 7]) (vs := [_, _]) rfl rfl ⟨rfl, rfl, trivial⟩ ?_
   refine ⟨S, i, by omega, ?_, hp1, hp2⟩
   rw [pB_no (fun ⟨x, h1, _⟩ => absurd (lt_of_get h1) (by omega))]
   rfl
theorem c_indexIt (g : FuncId) (hg : calleeOK Try.prog g = true) (cs : List Value) (q : It → Bool) (l : List It) (a : Option Addr) (c m : Nat) (hm : m = l.length) (w : World) (hn : ∀ x ∈ l, ∀ w', Sub w w' → FC Try.prog g ([x.val] ++ cs) w' (Val (.bool (q x)) w')) (hl : Sl w a 2 (l.map It.cells)) (hb : l.length ≤ 1000000) :
  FC Try.prog 31 [.slice a m c, .func (.func g) #[] cs.toArray] w (fun u w' => Sub w w' ∧ ∃ n, u = .int .i64 n ∧ (n < 0 ∧ l.any q = false ∨ 0 ≤ n ∧ l.any q = true)) := by
 subst hm
 refine FC.intro Try.func31 rfl Try.ntmps31 rfl ?_
 have S := Sub.refl w
 refine RC.seq (RC.region rfl ?_);refine RL.asS rfl ?_;refine RL.nil (RC.back (RC.seq (RC.seq (RC.region rfl ?_))));refine RL.mvS rfl ?_;refine RL.eS (.len sl22 rfl) ?_;refine RL.mvS rfl ?_;refine RL.nil (RC.back (RC.block ?_));refine RC.loop (α := Nat) (fun i => [(0, .slice a l.length c), (1, .func (.func g) #[] cs.toArray), (7, .int .i64 (l.length : Int)), (8, .int .i64 (i : Int))]) (fun i w1 => (i ≤ l.length ∧ ∀ x ∈ l.take i, q x = false) ∧ Sub w w1) (fun i => l.length - i) 0 (keep_of (by repeat (first | exact trivial | refine And.intro rfl ?_))) (⟨⟨Nat.zero_le _, by simp⟩, S⟩) (fun i w1 hJ => ?_)
 obtain ⟨⟨hi, hp⟩, S⟩ := hJ
 refine RC.seq (RC.region rfl ?_);refine RL.eS (.bin rfl rfl rfl) ?_;refine RL.nil (RC.back (RC.seq ?_));refine RC.cond_dec rfl (fun h2 => ?_) (fun h2 => ?_)
 ·
  obtain ⟨x, hx⟩ := getSome (l := l) (i := i) (by omega)
  have hxm := List.mem_of_getElem? hx
  refine RC.skip (RC.back (RC.seq (RC.block (RC.seq (RC.region rfl ?_)))));refine RL.mvS rfl ?_;refine RL.asS rfl ?_;refine RL.nil (RC.back (RC.seq (RC.region rfl ?_)));refine RL.mvS rfl ?_;refine RL.mvS rfl ?_;refine RL.mvS rfl ?_;refine RL.eS (.indexS sl22 rfl rfl (by omega) (hl.is (i := 0) (by simp only [List.length_map, List.length_cons, List.length_nil]; omega))) ?_;refine RL.eS (.loadR (x.cells) sh47 rfl ((hl.sub S).rowAt (enc := It.cells) (i := i) hx) rfl) ?_;refine RL.callv rfl rfl (us := []) (cs := cs) hg (hn x hxm w1 S) rfl rfl ?_;rintro _ w3 ⟨rfl, s4⟩;have S := S.trans s4;refine RL.nil (RC.back ?_);refine RC.cond rfl (fun h5 => ?_) (fun h5 => ?_)
  ·
   have h16 : q x = true := h5
   refine RC.seq (RC.region rfl ?_);refine RL.mvS rfl ?_;refine RL.asS rfl ?_;refine RL.nil (RC.back ?_);refine RC.d1 4 rfl rfl rfl ?_
   exact ⟨S, _, rfl, .inr ⟨by omega, List.any_eq_true.2 ⟨x, hxm, h16⟩⟩⟩
  ·
   have h16 : q x = false := h5
   refine RC.skip (RC.back (RC.region rfl ?_));refine RL.eS (.as (.bin rfl rfl rfl) (wi64 (y := ((i + 1 : Nat) : Int)) (by omega) (by omega))) ?_;refine RL.mvS rfl ?_
   exact RL.nil (fun a ka => ⟨i + 1, ⟨⟨by omega, fun z hz => by rw [List.take_add_one, hx] at hz; rcases List.mem_append.1 hz with hz | hz; exact hp z hz; have e : z = x := (by simpa using hz); rw [e]; exact h16⟩, S⟩, by omega, ka.keep (keep_of (by repeat (first | exact trivial | refine And.intro rfl ?_)))⟩)
 ·
  obtain rfl : i = l.length := (by omega)
  rw [List.take_length] at hp
  refine RC.exit rfl (RC.back (RC.seq (RC.region rfl ?_)));refine RL.asS rfl ?_;refine RL.nil (RC.back ?_);refine RC.d1 4 rfl rfl rfl ?_
  exact ⟨S, _, rfl, .inl ⟨by decide, List.any_eq_false.2 fun z hz => by rw [hp z hz]; simp⟩⟩
theorem c_containsIt (g : FuncId) (hg : calleeOK Try.prog g = true) (cs : List Value) (q : It → Bool) (l : List It) (a : Option Addr) (c m : Nat) (hm : m = l.length) (w : World) (hn : ∀ x ∈ l, ∀ w', Sub w w' → FC Try.prog g ([x.val] ++ cs) w' (Val (.bool (q x)) w')) (hl : Sl w a 2 (l.map It.cells)) (hb : l.length ≤ 1000000) :
  FC Try.prog 20 [.slice a m c, .func (.func g) #[] cs.toArray] w (Val (.bool (l.any q)) w) := by
 subst hm
 refine FC.intro Try.func20 rfl Try.ntmps20 rfl ?_
 have S := Sub.refl w
 refine RC.seq (RC.region rfl ?_);refine RL.asS rfl ?_;refine RL.nil (RC.back (RC.seq (RC.region rfl ?_)));refine RL.mvS rfl ?_;refine RL.mvS rfl ?_;refine RL.call rfl ok31 (c_indexIt g hg cs q l a c _ rfl w (fun x hx w' s => hn x hx w' (S.trans s)) (hl.sub S) hb) rfl rfl ?_;rintro _ w1 ⟨s2, n, rfl, hn7⟩;have S := S.trans s2;refine RL.eS (.bin rfl rfl rfl) ?_;refine RL.asS rfl ?_;refine RL.nil (RC.back ?_);refine RC.d1 4 rfl rfl rfl ?_
 rcases hn7 with ⟨h1, h2⟩ | ⟨h1, h2⟩
 rw [h2]
 exact ⟨congrArg Value.bool (decide_eq_false (by omega)), S⟩
 rw [h2]
 exact ⟨congrArg Value.bool (decide_eq_true (by omega)), S⟩
theorem c_indexOp (g : FuncId) (hg : calleeOK Try.prog g = true) (cs : List Value) (q : OpT → Bool) (l : List OpT) (a : Option Addr) (c m : Nat) (hm : m = l.length) (w : World) (hn : ∀ x ∈ l, ∀ w', Sub w w' → FC Try.prog g ([.agg x.cells.toArray] ++ cs) w' (Val (.bool (q x)) w')) (hl : Sl w a 4 (l.map OpT.cells)) (hb : l.length ≤ 1000000) :
  FC Try.prog 41 [.slice a m c, .func (.func g) #[] cs.toArray] w (fun u w' => Sub w w' ∧ ∃ n, u = .int .i64 n ∧ (n < 0 ∧ l.any q = false ∨ 0 ≤ n ∧ l.any q = true)) := by
 subst hm
 refine FC.intro Try.func41 rfl Try.ntmps41 rfl ?_
 have S := Sub.refl w
 refine RC.seq (RC.region rfl ?_);refine RL.asS rfl ?_;refine RL.nil (RC.back (RC.seq (RC.seq (RC.region rfl ?_))));refine RL.mvS rfl ?_;refine RL.eS (.len sl64 rfl) ?_;refine RL.mvS rfl ?_;refine RL.nil (RC.back (RC.block ?_));refine RC.loop (α := Nat) (fun i => [(0, .slice a l.length c), (1, .func (.func g) #[] cs.toArray), (7, .int .i64 (l.length : Int)), (8, .int .i64 (i : Int))]) (fun i w1 => (i ≤ l.length ∧ ∀ x ∈ l.take i, q x = false) ∧ Sub w w1) (fun i => l.length - i) 0 (keep_of (by repeat (first | exact trivial | refine And.intro rfl ?_))) (⟨⟨Nat.zero_le _, by simp⟩, S⟩) (fun i w1 hJ => ?_)
 obtain ⟨⟨hi, hp⟩, S⟩ := hJ
 refine RC.seq (RC.region rfl ?_);refine RL.eS (.bin rfl rfl rfl) ?_;refine RL.nil (RC.back (RC.seq ?_));refine RC.cond_dec rfl (fun h2 => ?_) (fun h2 => ?_)
 ·
  obtain ⟨x, hx⟩ := getSome (l := l) (i := i) (by omega)
  have hxm := List.mem_of_getElem? hx
  refine RC.skip (RC.back (RC.seq (RC.block (RC.seq (RC.region rfl ?_)))));refine RL.mvS rfl ?_;refine RL.asS rfl ?_;refine RL.nil (RC.back (RC.seq (RC.region rfl ?_)));refine RL.mvS rfl ?_;refine RL.mvS rfl ?_;refine RL.mvS rfl ?_;refine RL.eS (.indexS sl64 rfl rfl (by omega) (hl.is (i := 0) (by simp only [List.length_map, List.length_cons, List.length_nil]; omega))) ?_;refine RL.eS (.loadR (x.cells) sh27 rfl ((hl.sub S).rowAt (enc := OpT.cells) (i := i) hx) rfl) ?_;refine RL.callv rfl rfl (us := []) (cs := cs) hg (hn x hxm w1 S) rfl rfl ?_;rintro _ w3 ⟨rfl, s4⟩;have S := S.trans s4;refine RL.nil (RC.back ?_);refine RC.cond rfl (fun h5 => ?_) (fun h5 => ?_)
  ·
   have h16 : q x = true := h5
   refine RC.seq (RC.region rfl ?_);refine RL.mvS rfl ?_;refine RL.asS rfl ?_;refine RL.nil (RC.back ?_);refine RC.d1 4 rfl rfl rfl ?_
   exact ⟨S, _, rfl, .inr ⟨by omega, List.any_eq_true.2 ⟨x, hxm, h16⟩⟩⟩
  ·
   have h16 : q x = false := h5
   refine RC.skip (RC.back (RC.region rfl ?_));refine RL.eS (.as (.bin rfl rfl rfl) (wi64 (y := ((i + 1 : Nat) : Int)) (by omega) (by omega))) ?_;refine RL.mvS rfl ?_
   exact RL.nil (fun a ka => ⟨i + 1, ⟨⟨by omega, fun z hz => by rw [List.take_add_one, hx] at hz; rcases List.mem_append.1 hz with hz | hz; exact hp z hz; have e : z = x := (by simpa using hz); rw [e]; exact h16⟩, S⟩, by omega, ka.keep (keep_of (by repeat (first | exact trivial | refine And.intro rfl ?_)))⟩)
 ·
  obtain rfl : i = l.length := (by omega)
  rw [List.take_length] at hp
  refine RC.exit rfl (RC.back (RC.seq (RC.region rfl ?_)));refine RL.asS rfl ?_;refine RL.nil (RC.back ?_);refine RC.d1 4 rfl rfl rfl ?_
  exact ⟨S, _, rfl, .inl ⟨by decide, List.any_eq_false.2 fun z hz => by rw [hp z hz]; simp⟩⟩
theorem c_containsOp (g : FuncId) (hg : calleeOK Try.prog g = true) (cs : List Value) (q : OpT → Bool) (l : List OpT) (a : Option Addr) (c m : Nat) (hm : m = l.length) (w : World) (hn : ∀ x ∈ l, ∀ w', Sub w w' → FC Try.prog g ([.agg x.cells.toArray] ++ cs) w' (Val (.bool (q x)) w')) (hl : Sl w a 4 (l.map OpT.cells)) (hb : l.length ≤ 1000000) :
  FC Try.prog 26 [.slice a m c, .func (.func g) #[] cs.toArray] w (Val (.bool (l.any q)) w) := by
 subst hm
 refine FC.intro Try.func26 rfl Try.ntmps26 rfl ?_
 have S := Sub.refl w
 refine RC.seq (RC.region rfl ?_);refine RL.asS rfl ?_;refine RL.nil (RC.back (RC.seq (RC.region rfl ?_)));refine RL.mvS rfl ?_;refine RL.mvS rfl ?_;refine RL.call rfl ok41 (c_indexOp g hg cs q l a c _ rfl w (fun x hx w' s => hn x hx w' (S.trans s)) (hl.sub S) hb) rfl rfl ?_;rintro _ w1 ⟨s2, n, rfl, hn7⟩;have S := S.trans s2;refine RL.eS (.bin rfl rfl rfl) ?_;refine RL.asS rfl ?_;refine RL.nil (RC.back ?_);refine RC.d1 4 rfl rfl rfl ?_
 rcases hn7 with ⟨h1, h2⟩ | ⟨h1, h2⟩
 rw [h2]
 exact ⟨congrArg Value.bool (decide_eq_false (by omega)), S⟩
 rw [h2]
 exact ⟨congrArg Value.bool (decide_eq_true (by omega)), S⟩
structure Mo where
  map : List It
  tab : List It
  row : List Int
  heap : List It
structure Ph where
  a1 : Option Addr
  c1 : Nat
  a2 : Option Addr
  c2 : Nat
  a3 : Option Addr
  c3 : Nat
  a4 : Option Addr
  c4 : Nat
def moC (p : Ph) (m : Mo) : List Value := [.slice p.a1 m.map.length p.c1, .slice p.a2 m.tab.length p.c2, .slice p.a3 m.row.length p.c3, .slice p.a4 m.heap.length p.c4]
def moV (p : Ph) (m : Mo) : Value := .agg (moC p m).toArray
structure MoR (w : World) (p : Ph) (m : Mo) : Prop where
  h1 : Sl w p.a1 2 (m.map.map It.cells)
  h2 : Sl w p.a2 2 (m.tab.map It.cells)
  h3 : Sl w p.a3 1 (m.row.map fun x => [i6 x])
  h4 : Sl w p.a4 2 (m.heap.map It.cells)
structure MoS (p : Ph) (m : Mo) : Prop where
  k1 : m.map.length ≤ p.c1
  k2 : m.tab.length ≤ p.c2
  k3 : m.row.length ≤ p.c3
  k4 : m.heap.length ≤ p.c4
  l1 : m.map.length ≤ 1000
  l2 : m.tab.length ≤ 1000
  l3 : m.row.length ≤ 1000
  l4 : m.heap.length ≤ 1000
theorem MoR.sub {w w' : World} {p : Ph} {m : Mo} (h : MoR w p m) (s : Sub w w') : MoR w' p m := ⟨h.h1.sub s, h.h2.sub s, h.h3.sub s, h.h4.sub s⟩
def upB (x y : It) : Bool := decide (x.k < y.k)
def leB (x y : It) : Bool := decide (¬ lessP y x)
def rightM (m : Mo) : Prop := keysP upB m.map ∧ keysP upB m.tab ∧ (∀ x ∈ m.tab, crowdL m.tab x.k ≤ 9) ∧ m.row.length ≤ 200 ∧ keysP leB m.heap
theorem c_crowded (b1 : Nat) (p : Ph) (m : Mo) (hs : MoS p m) (x : It) (w : World) (hb : Has w b1 (moC p m) 25) (hr : MoR w p m) :
  FC Try.prog 17 [x.val, .pointer (some ⟨b1, 0, none⟩)] w (Val (.bool (decide (9 < crowdL m.tab x.k))) w) := by
 have l2 := hs.l2
 refine FC.intro Try.func17 rfl Try.ntmps17 rfl ?_
 have S := Sub.refl w
 refine RC.seq (RC.region rfl ?_);refine RL.box rfl rfl rfl (fun b_2 w_2 e_2 z_2 hb_2 s_2 => ?_)
 have n1__2 := hb.ne e_2
 have S := S.trans s_2;have hb := hb.sub s_2
 have hb_2 : Has w_2 b_2 ([.int .i64 x.k, .int .i64 x.v]) _ := hb_2
 refine RL.asS rfl ?_;refine RL.nil (RC.back (RC.seq (RC.region rfl ?_)));refine RL.eS (.field0 fo25_1 rfl) ?_;refine RL.eS (.load1 sh22 rfl (hb.cell rfl)) ?_;refine RL.eS (.field0 fo47_0 rfl) ?_;refine RL.eS (.load1 sh2 rfl (hb_2.cell rfl)) ?_;refine RL.call rfl ok18 (c_crowd m.tab p.a2 p.c2 _ rfl x.k w_2 (hr.h2.sub S) (by omega)) rfl rfl ?_;rintro _ w1 ⟨rfl, s2⟩;have S := S.trans s2;refine RL.eS (.bin rfl rfl rfl) ?_;refine RL.asS rfl ?_;refine RL.nil (RC.back ?_);refine RC.d1 3 rfl rfl rfl ?_
 exact ⟨congrArg Value.bool (decide_eq_decide.2 (by omega)), S⟩
theorem c_right (p : Ph) (m : Mo) (hs : MoS p m) (w : World) (hr : MoR w p m) : FC Try.prog 9 [moV p m] w (Val (.bool (pB (rightM m))) w) := by
 have l1 := hs.l1
 have l2 := hs.l2
 have l3 := hs.l3
 have l4 := hs.l4
 refine FC.intro Try.func9 rfl Try.ntmps9 rfl ?_
 have S := Sub.refl w
 refine RC.seq (RC.region rfl ?_);refine RL.box rfl rfl rfl (fun b_1 w_1 e_1 z_1 hb_1 s_1 => ?_);have S := S.trans s_1
 have hb_1 : Has w_1 b_1 ([.slice p.a1 m.map.length p.c1, .slice p.a2 m.tab.length p.c2, .slice p.a3 m.row.length p.c3, .slice p.a4 m.heap.length p.c4]) _ := hb_1
 refine RL.asS rfl ?_;refine RL.nil (RC.back (RC.seq (RC.region rfl ?_)));refine RL.asS rfl ?_;refine RL.nil (RC.back (RC.seq (RC.region rfl ?_)));refine RL.eS (.func (xs := []) (ys := [_]) rfl rfl) ?_;refine RL.asS rfl ?_;refine RL.nil (RC.back (RC.seq (RC.region rfl ?_)));refine RL.eS (.field0 fo25_0 rfl) ?_;refine RL.eS (.load1 sh22 rfl (hb_1.cell rfl)) ?_;refine RL.mvS rfl ?_;refine RL.call rfl ok19 (c_keys 16 ok16 upB c_up m.map p.a1 p.c1 _ rfl w_1 (hr.h1.sub S) (by omega)) rfl rfl ?_;rintro _ w1 ⟨rfl, s2⟩;have S := S.trans s2;have hb_1 := hb_1.sub s2;refine RL.mvS rfl ?_;refine RL.splitB 10 rfl (fun h3 => ?_) (fun h3 => ?_)
 ·
  have g10 := pB_iff.1 h3
  refine RL.eS (.field0 fo25_1 rfl) ?_;refine RL.eS (.load1 sh22 rfl (hb_1.cell rfl)) ?_;refine RL.mvS rfl ?_;refine RL.call rfl ok19 (c_keys 16 ok16 upB c_up m.tab p.a2 p.c2 _ rfl w1 (hr.h2.sub S) (by omega)) rfl rfl ?_;rintro _ w4 ⟨rfl, s5⟩;have S := S.trans s5;have hb_1 := hb_1.sub s5;refine RL.eS (.pick_t rfl rfl) ?_;refine RL.mvS rfl ?_;refine RL.splitB 16 rfl (fun h6 => ?_) (fun h6 => ?_)
  ·
   have g16 := pB_iff.1 h6
   refine RL.eS (.field0 fo25_1 rfl) ?_;refine RL.eS (.load1 sh22 rfl (hb_1.cell rfl)) ?_;refine RL.mvS rfl ?_;refine RL.call rfl ok20 (c_containsIt 17 ok17 [.pointer (some ⟨b_1, 0, none⟩)] (fun x => decide (9 < crowdL m.tab x.k)) m.tab p.a2 p.c2 _ rfl w4 (fun x _ w' s => c_crowded b_1 p m hs x w' (hb_1.sub s) ((hr.sub S).sub s)) (hr.h2.sub S) (by omega)) rfl rfl ?_;rintro _ w7 ⟨rfl, s8⟩;have S := S.trans s8;have hb_1 := hb_1.sub s8;refine RL.eS (.not rfl) ?_;refine RL.eS (.pick_t rfl rfl) ?_;refine RL.mvS rfl ?_;refine RL.splitB 23 rfl (fun h9 => ?_) (fun h9 => ?_)
   ·
    have g23 : ∀ x ∈ m.tab, crowdL m.tab x.k ≤ 9 := (fun x hx => by have q := h9; rw [Bool.not_eq_true', List.any_eq_false] at q; have := q x hx; simp at this; omega)
    refine RL.eS (.field0 fo25_2 rfl) ?_;refine RL.eS (.load1 sh23 rfl (hb_1.cell rfl)) ?_;refine RL.eS (.len sl23 rfl) ?_;refine RL.eS (.bin rfl rfl rfl) ?_;refine RL.eS (.pick_t rfl rfl) ?_;refine RL.mvS rfl ?_;refine RL.split 29 rfl (fun h10 => ?_) (fun h10 => ?_)
    ·
     have g29 : m.row.length ≤ 200 := (by omega)
     refine RL.eS (.field0 fo25_3 rfl) ?_;refine RL.eS (.load1 sh22 rfl (hb_1.cell rfl)) ?_;refine RL.call rfl ok19 (c_keys 21 ok21 leB c_le3 m.heap p.a4 p.c4 _ rfl w7 (hr.h4.sub S) (by omega)) rfl rfl ?_;rintro _ w11 ⟨rfl, s12⟩;have S := S.trans s12;refine RL.eS (.pick_t rfl rfl) ?_;refine RL.asS rfl ?_;refine RL.nil (RC.back ?_);refine RC.d1 2 rfl rfl rfl ?_
     refine ⟨congrArg Value.bool ?_, S⟩
     first | exact (pB_no (fun e => absurd e.1 g10)).symm | exact (pB_no (fun e => absurd e.2.1 g16)).symm | exact (pB_no (fun e => absurd e.2.2.1 g23)).symm | exact (pB_no (fun e => absurd e.2.2.2.1 g29)).symm | exact pB_congr ⟨fun h => ⟨g10, g16, g23, g29, h⟩, fun h => h.2.2.2.2⟩
    ·
     have g29 : ¬ m.row.length ≤ 200 := (by omega)
     refine RL.offs 3 rfl ?_;refine RL.eS (.pick_f rfl rfl) ?_;refine RL.asS rfl ?_;refine RL.nil (RC.back ?_);refine RC.d1 2 rfl rfl rfl ?_
     refine ⟨congrArg Value.bool ?_, S⟩
     first | exact (pB_no (fun e => absurd e.1 g10)).symm | exact (pB_no (fun e => absurd e.2.1 g16)).symm | exact (pB_no (fun e => absurd e.2.2.1 g23)).symm | exact (pB_no (fun e => absurd e.2.2.2.1 g29)).symm | exact pB_congr ⟨fun h => ⟨g10, g16, g23, g29, h⟩, fun h => h.2.2.2.2⟩
   ·
    have g23 : ¬ ∀ x ∈ m.tab, crowdL m.tab x.k ≤ 9 := (fun e => by have q := h9; rw [Bool.not_eq_false', List.any_eq_true] at q; obtain ⟨x, hx, hx2⟩ := q; have := e x hx; simp at hx2; omega)
    refine RL.offs 4 rfl ?_;refine RL.eS (.pick_f rfl rfl) ?_;refine RL.mvS rfl ?_;refine RL.offs 3 rfl ?_;refine RL.eS (.pick_f rfl rfl) ?_;refine RL.asS rfl ?_;refine RL.nil (RC.back ?_);refine RC.d1 2 rfl rfl rfl ?_
    refine ⟨congrArg Value.bool ?_, S⟩
    first | exact (pB_no (fun e => absurd e.1 g10)).symm | exact (pB_no (fun e => absurd e.2.1 g16)).symm | exact (pB_no (fun e => absurd e.2.2.1 g23)).symm | exact (pB_no (fun e => absurd e.2.2.2.1 g29)).symm | exact pB_congr ⟨fun h => ⟨g10, g16, g23, g29, h⟩, fun h => h.2.2.2.2⟩
  ·
   have g16 : ¬ keysP upB m.tab := (fun e => by rw [pB_yes e] at h6; cases h6)
   refine RL.offs 5 rfl ?_;refine RL.eS (.pick_f rfl rfl) ?_;refine RL.mvS rfl ?_;refine RL.offs 4 rfl ?_;refine RL.eS (.pick_f rfl rfl) ?_;refine RL.mvS rfl ?_;refine RL.offs 3 rfl ?_;refine RL.eS (.pick_f rfl rfl) ?_;refine RL.asS rfl ?_;refine RL.nil (RC.back ?_);refine RC.d1 2 rfl rfl rfl ?_
   refine ⟨congrArg Value.bool ?_, S⟩
   first | exact (pB_no (fun e => absurd e.1 g10)).symm | exact (pB_no (fun e => absurd e.2.1 g16)).symm | exact (pB_no (fun e => absurd e.2.2.1 g23)).symm | exact (pB_no (fun e => absurd e.2.2.2.1 g29)).symm | exact pB_congr ⟨fun h => ⟨g10, g16, g23, g29, h⟩, fun h => h.2.2.2.2⟩
 ·
  have g10 : ¬ keysP upB m.map := (fun e => by rw [pB_yes e] at h3; cases h3)
  refine RL.offs 4 rfl ?_;refine RL.eS (.pick_f rfl rfl) ?_;refine RL.mvS rfl ?_;refine RL.offs 5 rfl ?_;refine RL.eS (.pick_f rfl rfl) ?_;refine RL.mvS rfl ?_;refine RL.offs 4 rfl ?_;refine RL.eS (.pick_f rfl rfl) ?_;refine RL.mvS rfl ?_;refine RL.offs 3 rfl ?_;refine RL.eS (.pick_f rfl rfl) ?_;refine RL.asS rfl ?_;refine RL.nil (RC.back ?_);refine RC.d1 2 rfl rfl rfl ?_
  refine ⟨congrArg Value.bool ?_, S⟩
  first | exact (pB_no (fun e => absurd e.1 g10)).symm | exact (pB_no (fun e => absurd e.2.1 g16)).symm | exact (pB_no (fun e => absurd e.2.2.1 g23)).symm | exact (pB_no (fun e => absurd e.2.2.2.1 g29)).symm | exact pB_congr ⟨fun h => ⟨g10, g16, g23, g29, h⟩, fun h => h.2.2.2.2⟩
theorem chain_srt (l : List It) : (∀ i x y, l[i]? = some x → l[i + 1]? = some y → upB x y = true) ↔ Srt l := by
  rw [srt_iff]
  constructor
  · intro h i hi
    obtain ⟨x, hx⟩ := getSome (l := l) (i := i) (by omega)
    obtain ⟨y, hy⟩ := getSome (l := l) (i := i + 1) hi
    rw [kAt_get hx, kAt_get hy]
    exact of_decide_eq_true (h i x y hx hy)
  · intro h i x y hx hy
    have := h i (lt_of_get hy)
    rw [kAt_get hx, kAt_get hy] at this
    exact decide_eq_true this
theorem rightM_iff (m : Mo) : rightM m ↔ (∀ i x y, m.heap[i]? = some x → m.heap[i + 1]? = some y → ¬ lessP y x) ∧ (∀ x ∈ m.tab, crowdL m.tab x.k ≤ 9) ∧ ((∀ x ∈ m.map, inK x) ∧ m.map.length ≤ 200) ∧ ((∀ x ∈ m.tab, inK x) ∧ m.tab.length ≤ 200) ∧ ((∀ x ∈ m.heap, inK x) ∧ m.heap.length ≤ 200) ∧ m.row.length ≤ 200 ∧ Srt m.map ∧ Srt m.tab := by
  unfold rightM keysP
  rw [chain_srt, chain_srt]
  constructor
  · rintro ⟨⟨a1, a2, a3⟩, ⟨b1, b2, b3⟩, c, d, e1, e2, e3⟩
    exact ⟨fun i x y hx hy => of_decide_eq_true (e2 i x y hx hy), c, ⟨a1, a3⟩, ⟨b1, b3⟩, ⟨e1, e3⟩, d, a2, b2⟩
  · rintro ⟨e2, c, ⟨a1, a3⟩, ⟨b1, b3⟩, ⟨e1, e3⟩, d, a2, b2⟩
    exact ⟨⟨a1, a2, a3⟩, ⟨b1, b2, b3⟩, c, d, e1, fun i x y hx hy => decide_eq_true (e2 i x y hx hy), e3⟩
def layF : Nat → List Node → Nat → List It → List Node × Int
  | 0, ns, _, _ => (ns, 0)
  | k + 1, ns, at_, l => if topL l < 0 then (ns, 0) else
    ((layF k (layF k ns (at_ + 1) (l.take (topL l).toNat)).1 (at_ + 1 + (topL l).toNat) (l.drop ((topL l).toNat + 1))).1.set at_
      (tNode 0 (l.getD (topL l).toNat it0).k (l.getD (topL l).toNat it0).v l.length (layF k ns (at_ + 1) (l.take (topL l).toNat)).2 (layF k (layF k ns (at_ + 1) (l.take (topL l).toNat)).1 (at_ + 1 + (topL l).toNat) (l.drop ((topL l).toNat + 1))).2), (at_ : Int) + 1)
def buildA (size : Nat) (l : List It) : Ar := ⟨(layF (l.length + 1) (List.replicate size (bareN 0)) 0 l).1, freeB size (size - l.length)⟩
def hasK (l : List It) (key : Int) : Bool := l.any fun x => decide (x.k = key)
theorem hasK_iff {l : List It} {key : Int} : hasK l key = true ↔ ∃ y ∈ l, y.k = key := by simp [hasK]
def ltL (key : Int) (L : List It) : List It := L.filter fun x => decide (x.k < key)
def gtL (key : Int) (L : List It) : List It := L.filter fun x => decide (key < x.k)
def putL (L : List It) (key v : Int) : List It := ltL key L ++ ⟨key, v⟩ :: gtL key L
def delL (L : List It) (key : Int) : List It := L.filter fun x => decide (¬ x.k = key)
theorem filter_sub {p : It → Bool} {L : List It} {y : It} (h : y ∈ L.filter p) : y ∈ L := (List.mem_filter.1 h).1
theorem filter_all {p : It → Bool} {L : List It} (h : ∀ y ∈ L, p y = true) : L.filter p = L := List.filter_eq_self.2 h
theorem filter_none {p : It → Bool} {L : List It} (h : ∀ y ∈ L, p y = false) : L.filter p = [] := List.filter_eq_nil_iff.2 fun y hy => by rw [h y hy]; simp
section
variable {L R : List It} {it : It} {key v : Int}
theorem ltL_ge (h : Srt (L ++ it :: R)) (q : ¬ it.k < key) : ltL key (L ++ it :: R) = ltL key L := by
  unfold ltL
  rw [List.filter_append, List.filter_cons, if_neg (by simpa using q), filter_none (L := R), List.append_nil]
  intro y hy; have := h.split.2.2.2 y hy; simp; omega
theorem gtL_le (h : Srt (L ++ it :: R)) (q : ¬ key < it.k) : gtL key (L ++ it :: R) = gtL key R := by
  unfold gtL
  rw [List.filter_append, List.filter_cons, if_neg (by simp; omega), filter_none (L := L), List.nil_append]
  intro y hy; have := h.split.2.2.1 y hy; simp; omega
theorem putL_eq (h : Srt (L ++ it :: R)) (q : it.k = key) : putL (L ++ it :: R) key v = L ++ ⟨key, v⟩ :: R := by
  unfold putL
  rw [ltL_ge h (by omega), gtL_le h (by omega)]
  have h1 : ltL key L = L := filter_all fun y hy => by have := h.split.2.2.1 y hy; simp; omega
  have h2 : gtL key R = R := filter_all fun y hy => by have := h.split.2.2.2 y hy; simp; omega
  rw [h1, h2]
theorem delL_eq (h : Srt (L ++ it :: R)) (q : it.k = key) : delL (L ++ it :: R) key = L ++ R := by
  unfold delL
  rw [List.filter_append, List.filter_cons, if_neg (by simpa using q), filter_all, filter_all]
  · intro y hy; have := h.split.2.2.2 y hy; simp; omega
  · intro y hy; have := h.split.2.2.1 y hy; simp; omega
theorem Srt.sub {p : It → Bool} (h : Srt L) : Srt (L.filter p) := List.Pairwise.filter _ h
theorem Srt.put (h : Srt L) : Srt (putL L key v) := by
  unfold putL
  refine Srt.join h.sub h.sub (fun y hy => ?_) (fun y hy => ?_)
  · have := (List.mem_filter.1 hy).2; simpa using this
  · have := (List.mem_filter.1 hy).2; simpa using this
theorem putL_mem {y : It} (h : y ∈ putL L key v) : y = ⟨key, v⟩ ∨ y ∈ L := by
  unfold putL at h
  rcases List.mem_append.1 h with h | h
  · exact .inr (filter_sub h)
  · rcases List.mem_cons.1 h with h | h
    · exact .inl h
    · exact .inr (filter_sub h)
end
structure ResT where
  e : Int
  a : Int
  b : Int
  deriving DecidableEq
def ResT.cells (r : ResT) : List Value := [.int .i64 r.e, .int .i64 r.a, .int .i64 r.b]
def valAt (l : List It) (n : Nat) : It := l.getD n it0
def pairsM (l : List It) (o : OpT) : List It × ResT :=
  let n := (ltL o.a l).length
  let is := hasK l o.a
  if o.kind = 6 then (l, ⟨0, l.length, 0⟩)
  else if o.kind = 2 then
    if is = false ∧ (200 ≤ l.length ∨ o.box = 2 ∧ 9 ≤ crowdL l o.a) then (l, ⟨5, 0, 0⟩)
    else (putL l o.a o.b, if is then ⟨0, 1, (valAt l n).v⟩ else ⟨0, 0, 0⟩)
  else if o.kind = 4 then
    if (if is then n + 1 else n) = 0 then (l, ⟨3, 0, 0⟩)
    else (l, ⟨0, (valAt l ((if is then n + 1 else n) - 1)).k, (valAt l ((if is then n + 1 else n) - 1)).v⟩)
  else if o.kind = 5 then (l, ⟨0, n, 0⟩)
  else if is = false then (l, ⟨3, 0, 0⟩)
  else (if o.kind = 3 then delL l o.a else l, ⟨0, (valAt l n).v, 0⟩)
theorem valAt_get {l : List It} {n : Nat} {x : It} (h : l[n]? = some x) : valAt l n = x := by rw [valAt, List.getD_eq_getElem?_getD, h]; rfl
theorem part_lt {l : List It} {n : Nat} {key : Int} (hn : n ≤ l.length) (h1 : ∀ k x, k < n → l[k]? = some x → x.k < key) (h2 : ∀ k x, n ≤ k → l[k]? = some x → ¬ x.k < key) : ltL key l = l.take n ∧ (ltL key l).length = n := by
  have e : ltL key l = l.take n := by
    unfold ltL
    conv => lhs; rw [← List.take_append_drop n l]
    rw [List.filter_append, filter_all, filter_none, List.append_nil]
    · intro y hy
      obtain ⟨j, hj⟩ := List.getElem?_of_mem hy
      rw [List.getElem?_drop] at hj
      exact decide_eq_false (h2 _ y (by omega) hj)
    · intro y hy
      obtain ⟨j, hj⟩ := List.getElem?_of_mem hy
      have hjl := lt_of_get hj
      rw [List.length_take] at hjl
      rw [List.getElem?_take_of_lt (by omega)] at hj
      exact decide_eq_true (h1 j y (by omega) hj)
  exact ⟨e, by rw [e, List.length_take]; omega⟩
theorem srt_get {l : List It} (hs : Srt l) {i j : Nat} {x y : It} (hij : i < j) (hx : l[i]? = some x) (hy : l[j]? = some y) : x.k < y.k := by
  have := List.pairwise_iff_getElem.1 hs i j (lt_of_get hx) (lt_of_get hy) hij
  rw [getElem_of hx, getElem_of hy] at this
  exact this
theorem part_has {l : List It} (hs : Srt l) {n : Nat} {key : Int} (hn : n = (ltL key l).length) : (hasK l key = true ↔ ∃ x, l[n]? = some x ∧ x.k = key) ∧ (∀ k x, k < n → l[k]? = some x → x.k < key) ∧ (∀ k x, n ≤ k → l[k]? = some x → ¬ x.k < key) ∧ n ≤ l.length := by
  have hle : n ≤ l.length := by rw [hn]; exact List.length_filter_le _ _
  have key1 : ∀ k x, l[k]? = some x → (x.k < key ↔ k < n) := by
    -- the row is some below the key, then some that are not
    obtain ⟨m, hm, h1, h2⟩ : ∃ m, m ≤ l.length ∧ (∀ k x, k < m → l[k]? = some x → x.k < key) ∧ (∀ k x, m ≤ k → l[k]? = some x → ¬ x.k < key) := by
      clear hn hle
      have aux : ∀ m, m ≤ l.length → (∀ k x, k < m → l[k]? = some x → x.k < key) → ∃ m, m ≤ l.length ∧ (∀ k x, k < m → l[k]? = some x → x.k < key) ∧ (∀ k x, m ≤ k → l[k]? = some x → ¬ x.k < key) := by
        intro m
        induction hd : l.length - m generalizing m with
        | zero => intro hm h; exact ⟨m, hm, h, fun k x hk hx => absurd (lt_of_get hx) (by omega)⟩
        | succ d ih =>
          intro hm h
          obtain ⟨y, hy⟩ := getSome (l := l) (i := m) (by omega)
          by_cases q : y.k < key
          · refine ih (m + 1) (by omega) (by omega) (fun k x hk hx => ?_)
            rcases Nat.lt_or_ge k m with g | g
            · exact h k x g hx
            · obtain rfl : k = m := by omega
              rw [hy] at hx; cases hx; exact q
          · refine ⟨m, hm, h, fun k x hk hx hlt => ?_⟩
            rcases Nat.lt_or_ge m k with g | g
            · have := srt_get hs g hy hx; omega
            · obtain rfl : k = m := by omega
              rw [hy] at hx; cases hx; exact q hlt
      exact aux 0 (Nat.zero_le _) (fun k x hk => absurd hk (Nat.not_lt_zero _))
    have := (part_lt hm h1 h2).2
    rw [← hn] at this
    subst this
    intro k x hx
    exact ⟨fun h => by rcases Nat.lt_or_ge k n with g | g; exact g; exact absurd h (h2 k x g hx), fun h => h1 k x h hx⟩
  refine ⟨⟨fun h => ?_, fun ⟨x, hx, e⟩ => hasK_iff.2 ⟨x, List.mem_of_getElem? hx, e⟩⟩, fun k x hk hx => (key1 k x hx).2 hk, fun k x hk hx h => absurd ((key1 k x hx).1 h) (by omega), hle⟩
  obtain ⟨y, hy, e⟩ := hasK_iff.1 h
  obtain ⟨j, hj⟩ := List.getElem?_of_mem hy
  have h1 : n ≤ j := by
    rcases Nat.lt_or_ge j n with g | g
    · have := (key1 j y hj).2 g; omega
    · exact g
  rcases Nat.lt_or_ge n j with g | g
  · obtain ⟨x, hx⟩ := getSome (l := l) (i := n) (by have := lt_of_get hj; omega)
    have h2 := srt_get hs g hx hj
    exact absurd ((key1 n x hx).1 (by omega)) (by omega)
  · obtain rfl : j = n := by omega
    exact ⟨y, hj, e⟩
theorem split_get {l : List It} {n : Nat} {x : It} (h : l[n]? = some x) : l = l.take n ++ x :: l.drop (n + 1) := by
  have := List.getElem?_eq_some_iff.1 h
  obtain ⟨hl, e⟩ := this
  rw [← e, List.getElem_cons_drop, List.take_append_drop]
theorem put_has {l : List It} (hs : Srt l) {n : Nat} {x : It} {key v : Int} (h : l[n]? = some x) (e : x.k = key) : putL l key v = l.take n ++ ⟨key, v⟩ :: l.drop (n + 1) := by
  have h1 := split_get h
  rw [h1] at hs
  conv => lhs; rw [h1]
  exact putL_eq hs e
theorem del_has {l : List It} (hs : Srt l) {n : Nat} {x : It} {key : Int} (h : l[n]? = some x) (e : x.k = key) : delL l key = l.take n ++ l.drop (n + 1) := by
  have h1 := split_get h
  rw [h1] at hs
  conv => lhs; rw [h1]
  exact delL_eq hs e
theorem put_no {l : List It} (hs : Srt l) {n : Nat} {key v : Int} (hn : n = (ltL key l).length) (h : hasK l key = false) : putL l key v = l.take n ++ ⟨key, v⟩ :: l.drop n := by
  obtain ⟨g0, g1, g2, g3⟩ := part_has hs hn
  have e1 := (part_lt g3 g1 g2).1
  have e2 : gtL key l = l.drop n := by
    unfold gtL
    conv => lhs; rw [← List.take_append_drop n l]
    rw [List.filter_append, filter_none, filter_all, List.nil_append]
    · intro y hy
      obtain ⟨j, hj⟩ := List.getElem?_of_mem hy
      rw [List.getElem?_drop] at hj
      have := g2 _ y (by omega) hj
      have hne : ¬ y.k = key := fun e => by
        rw [hasK_iff.2 ⟨y, List.mem_of_mem_drop hy, e⟩] at h; cases h
      exact decide_eq_true (by omega)
    · intro y hy
      obtain ⟨j, hj⟩ := List.getElem?_of_mem hy
      have hjl := lt_of_get hj
      rw [List.length_take] at hjl
      rw [List.getElem?_take_of_lt (by omega)] at hj
      have := g1 j y (by omega) hj
      exact decide_eq_false (by omega)
  unfold putL
  rw [e1, e2]
section
variable {P : Program} {n : Cx} {F : (List (Nat × Value))} {w : World} {p : Post} {ops : Array Oper} {rest : List Oper} {d : Option Tmp} {t : TypeId} {pos : String} {af : Array Edge} {g : Option (Nat × Bool)}
def Up (C : Nat → Prop) (w : World) (C' : Nat → Prop) : Prop := ∀ k, C' k → C k ∨ w.heap.size ≤ k
theorem Up.refl (C : Nat → Prop) (w : World) : Up C w C := fun _ h => .inl h
theorem Up.le {C C' : Nat → Prop} {w w1 : World} (h : Up C w1 C') (hz : w.heap.size ≤ w1.heap.size) : Up C w C' := fun k hk => (h k hk).imp id (Nat.le_trans hz)
theorem Up.trans {C C1 C2 : Nat → Prop} {w : World} (h : Up C w C1) (k : Up C1 w C2) : Up C w C2 := fun i hi => (k i hi).elim (h i) .inr
theorem Up.not {C C' : Nat → Prop} {w : World} {b : Nat} (h : Up C w C') (hb : b < w.heap.size) (hn : ¬ C b) : ¬ C' b := fun e => (h b e).elim hn (fun e => by omega)
theorem upNe {M M' : Nat → Prop} {w : World} {b : Nat} (h : Up M w M') (d : ∀ k, M k → k ≠ b) (hb : b < w.heap.size) : ∀ k, M' k → k ≠ b := fun k hk e => h.not hb (fun e' => d _ e' rfl) (e ▸ hk)
theorem upDD {M M' : Nat → Prop} {w : World} {v : Value} (h : Up M w M') (d : ∀ k, ob v = some k → M k → False) (hb : ∀ k, ob v = some k → k < w.heap.size) : ∀ k, ob v = some k → M' k → False := fun k hk => h.not (hb k hk) (d k hk)
end
theorem c_pcmp (key : Int) (x : It) (w : World) : FC Try.prog 45 [x.val, .int .i64 key] w (Val (.int .i64 (cmpI x.k key)) w) := by
 refine FC.intro Try.func45 rfl Try.ntmps45 rfl ?_
 have S := Sub.refl w
 refine RC.seq (RC.region rfl ?_);refine RL.box rfl rfl rfl (fun b_2 w_2 e_2 z_2 hb_2 s_2 => ?_);have S := S.trans s_2
 have hb_2 : Has w_2 b_2 ([.int .i64 x.k, .int .i64 x.v]) _ := hb_2
 refine RL.asS rfl ?_;refine RL.nil (RC.back (RC.seq (RC.region rfl ?_)));refine RL.eS (.field0 fo47_0 rfl) ?_;refine RL.eS (.load1 sh2 rfl (hb_2.cell rfl)) ?_;refine RL.mvS rfl ?_;refine RL.call rfl ok33 (c_compare x.k key w_2) rfl rfl ?_;rintro _ w1 ⟨rfl, s2⟩;have S := S.trans s2;refine RL.asS rfl ?_;refine RL.nil (RC.back ?_);refine RC.d1 4 rfl rfl rfl ?_
 exact ⟨rfl, S⟩
theorem cmpI_neg {a b : Int} : cmpI a b < 0 ↔ a < b := by rcases cmpI_cases a b with h | h | h <;> omega
theorem cmpI_zero {a b : Int} : cmpI a b = 0 ↔ a = b := by rcases cmpI_cases a b with h | h | h <;> omega
theorem c_none (w : World) : FC Try.prog 46 [] w (Val (.agg #[.int .i64 3, .int .i64 0, .int .i64 0]) w) := by
 refine FC.intro Try.func46 rfl Try.ntmps46 rfl ?_
 have S := Sub.refl w
 refine RC.seq (RC.region rfl ?_);refine RL.alloc ze31 rfl rfl (fun b_0 w_0 e_0 z_0 hb_0 s_0 => ?_);have ge_0 := S.le e_0;have S := S.trans s_0;refine RL.nil (RC.back (RC.seq (RC.region rfl ?_)));refine RL.eS (.buildS ze31 pl31 rfl rfl) ?_;refine RL.stS sh31 rfl rfl rfl hb_0 (fun w1 z1 hb_0 a1 => ?_);have S := S.upd a1 ge_0
 have hb_0 : Has w1 b_0 ([.int .i64 3, .int .i64 0, .int .i64 0]) _ := hb_0.now (by kernel_rfl)
 refine RL.nil (RC.back ?_);refine RC.done (rs := [.cell 0 31]) (vs := [_]) rfl rfl ⟨⟨_, rfl, .inr ⟨[.int .i64 3, .int .i64 0, .int .i64 0], sh31, hb_0.row, rfl⟩⟩, trivial⟩ ?_
 exact ⟨rfl, S⟩
theorem c_full (w : World) : FC Try.prog 49 [] w (Val (.agg #[.int .i64 5, .int .i64 0, .int .i64 0]) w) := by
 refine FC.intro Try.func49 rfl Try.ntmps49 rfl ?_
 have S := Sub.refl w
 refine RC.seq (RC.region rfl ?_);refine RL.alloc ze31 rfl rfl (fun b_0 w_0 e_0 z_0 hb_0 s_0 => ?_);have ge_0 := S.le e_0;have S := S.trans s_0;refine RL.nil (RC.back (RC.seq (RC.region rfl ?_)));refine RL.eS (.buildS ze31 pl31 rfl rfl) ?_;refine RL.stS sh31 rfl rfl rfl hb_0 (fun w1 z1 hb_0 a1 => ?_);have S := S.upd a1 ge_0
 have hb_0 : Has w1 b_0 ([.int .i64 5, .int .i64 0, .int .i64 0]) _ := hb_0.now (by kernel_rfl)
 refine RL.nil (RC.back ?_);refine RC.done (rs := [.cell 0 31]) (vs := [_]) rfl rfl ⟨⟨_, rfl, .inr ⟨[.int .i64 5, .int .i64 0, .int .i64 0], sh31, hb_0.row, rfl⟩⟩, trivial⟩ ?_
 exact ⟨rfl, S⟩
def AnsP (M : Nat → Prop) (w w' : World) (q : List It × ResT) (u : Value) : Prop := Sub w w' ∧ ∃ a' c' M', u = .tuple #[.slice a' q.1.length c', .agg q.2.cells.toArray] ∧ q.1.length ≤ c' ∧ Ft M' (fun u => Sl u a' 2 (q.1.map It.cells)) w' ∧ Up M w M'
theorem c_pairs (l : List It) (a : Option Addr) (c m : Nat) (hm : m = l.length) (hs : Srt l) (hl200 : l.length ≤ 200) (hc : l.length ≤ c) (o : OpT) (hok : okP o) (w : World) (M : Nat → Prop) (hF : Ft M (fun u => Sl u a 2 (l.map It.cells)) w) :
  FC Try.prog 35 [.slice a m c, .agg o.cells.toArray] w (fun u w' => AnsP M w w' (pairsM l o) u) := by
 subst hm
 have hl := hF.now
 have hk := hok.1
 obtain ⟨n, hn⟩ : ∃ n, n = (ltL o.a l).length := ⟨_, rfl⟩
 obtain ⟨g0, g1, g2, g3⟩ := part_has hs hn
 obtain ⟨is, his⟩ : ∃ b, b = hasK l o.a := ⟨_, rfl⟩
 rw [← his] at g0
 have hdef : pairsM l o = if o.kind = 6 then (l, ⟨0, l.length, 0⟩)
  else if o.kind = 2 then
   if is = false ∧ (200 ≤ l.length ∨ o.box = 2 ∧ 9 ≤ crowdL l o.a) then (l, ⟨5, 0, 0⟩)
   else (putL l o.a o.b, if is then ⟨0, 1, (valAt l n).v⟩ else ⟨0, 0, 0⟩)
  else if o.kind = 4 then
   if (if is then n + 1 else n) = 0 then (l, ⟨3, 0, 0⟩)
   else (l, ⟨0, (valAt l ((if is then n + 1 else n) - 1)).k, (valAt l ((if is then n + 1 else n) - 1)).v⟩)
  else if o.kind = 5 then (l, ⟨0, n, 0⟩)
  else if is = false then (l, ⟨3, 0, 0⟩)
  else (if o.kind = 3 then delL l o.a else l, ⟨0, (valAt l n).v, 0⟩) := by rw [hn, his]; rfl
 have hkk : 1 ≤ o.kind ∧ o.kind ≤ 6 := ⟨hk.2.2.1, hk.2.2.2.1⟩
 refine FC.intro Try.func35 rfl Try.ntmps35 rfl ?_
 have S := Sub.refl w
 refine RC.seq (RC.region rfl ?_);refine RL.box rfl rfl rfl (fun b_3 w_3 e_3 z_3 hb_3 s_3 => ?_);have S := S.trans s_3
 have hb_3 : Has w_3 b_3 ([.int .i64 o.box, .int .i64 o.kind, .int .i64 o.a, .int .i64 o.b]) _ := hb_3
 refine RL.asS rfl ?_;refine RL.alloc ze31 rfl rfl (fun b_5 w_5 e_5 z_5 hb_5 s_5 => ?_);have ge_5 := S.le e_5;have n_3__5 := hb_3.ne e_5;have S := S.trans s_5;have hb_3 := hb_3.sub s_5;refine RL.nil (RC.back (RC.seq (RC.region rfl ?_)));refine RL.mvS rfl ?_;refine RL.eS (.field0 fo27_2 rfl) ?_;refine RL.eS (.load1 sh2 rfl (hb_3.cell rfl)) ?_;refine RL.call rfl ok44 (c_bsf 45 ok45 o.a (fun x => cmpI x.k o.a) (c_pcmp o.a) l (fun i j x y hij hx hy h => by rw [cmpI_neg] at h ⊢; rcases Nat.lt_or_eq_of_le hij with q | q; have := srt_get hs q hx hy; omega; subst q; rw [hx] at hy; cases hy; exact h) a c _ rfl w_5 (hl.sub S) (by omega)) rfl rfl ?_;rintro _ w1 ⟨s2, n', hn1, rfl, hn2, hn3⟩;have S := S.trans s2;have hb_3 := hb_3.sub s2;have hb_5 := hb_5.sub s2
 have hnn : n' = n := (by rw [hn]; exact (part_lt hn1 (fun k x h1 h2 => cmpI_neg.1 (hn2 k x h1 h2)) (fun k x h1 h2 h3 => hn3 k x h1 h2 (cmpI_neg.2 h3))).2.symm)
 subst hnn
 have hbi : pB (∃ x, l[n']? = some x ∧ cmpI x.k o.a = 0) = is := (by rw [Bool.eq_iff_iff, pB_iff, g0]; exact ⟨fun ⟨x, h1, h2⟩ => ⟨x, h1, cmpI_zero.1 h2⟩, fun ⟨x, h1, h2⟩ => ⟨x, h1, cmpI_zero.2 h2⟩⟩)
 rw [hbi]
 refine RL.mvS rfl ?_;refine RL.eS (.extract rfl rfl) ?_;refine RL.eS (.as (v' := .bool is) (.extract rfl rfl) (by rfl)) ?_;refine RL.asS rfl ?_;refine RL.asS rfl ?_;refine RL.nil (RC.back (RC.seq (RC.seq (RC.region rfl ?_))));refine RL.eS (.field0 fo27_1 rfl) ?_;refine RL.eS (.load1 sh3 rfl (hb_3.cell rfl)) ?_;refine RL.nil (RC.back (RC.block (RC.seq (RC.seq (RC.region rfl ?_)))));refine RL.eS (.bin rfl rfl rfl) ?_;refine RL.asS rfl ?_;refine RL.nil (RC.back ?_);refine RC.cond_dec rfl (fun h3 => ?_) (fun h3 => ?_)
 ·
  have k20 := h3
  refine RC.skip (RC.back ?_);refine RC.cond_dec rfl (fun h4 => ?_) (fun h4 => absurd h3 h4);refine RC.seq (RC.seq (RC.region rfl ?_));refine RL.mvS rfl ?_;refine RL.eS (.not rfl) ?_;refine RL.nil (RC.back ?_);refine RC.cond rfl (fun h5 => ?_) (fun h5 => ?_)
  ·
   have is0 : is = false := (by simpa using h5)
   refine RC.seq (RC.region rfl ?_);refine RL.mvS rfl ?_;refine RL.call rfl ok46 (c_none w1) rfl rfl ?_;rintro _ w6 ⟨rfl, s7⟩;have S := S.trans s7;have hb_3 := hb_3.sub s7;have hb_5 := hb_5.sub s7;refine RL.asS rfl ?_;refine RL.stS sh31 rfl rfl rfl hb_5 (fun w8 z8 hb_5 a8 => ?_);have S := S.upd a8 ge_5;have hb_3 := hb_3.upd a8 n_3__5
   have hb_5 : Has w8 b_5 ([.int .i64 3, .int .i64 0, .int .i64 0]) _ := hb_5.now (by kernel_rfl)
   refine RL.nil (RC.back ?_);refine RC.done (rs := [.tmp 4, .cell 5 31]) (vs := [_, _]) rfl rfl ⟨rfl, ⟨_, rfl, .inr ⟨[.int .i64 3, .int .i64 0, .int .i64 0], sh31, hb_5.row, rfl⟩⟩, trivial⟩ ?_
   have he : pairsM l o = (l, ⟨3, 0, 0⟩) := (by rw [hdef, if_neg (by omega), if_neg (by omega), if_neg (by omega), if_neg (by omega), if_pos is0])
   rw [he]
   exact ⟨S, _, _, M, rfl, hc, hF.sub S, Up.refl _ _⟩
  ·
   have is1 : is = true := (by simpa using h5)
   obtain ⟨x, hx, hxk⟩ := g0.1 is1
   have hnl := lt_of_get hx
   have hva := valAt_get hx
   refine RC.skip (RC.back (RC.seq (RC.region rfl ?_)));refine RL.mvS rfl ?_;refine RL.mvS rfl ?_;refine RL.eS (.indexS sl22 rfl rfl (by omega) (hl.is (i := 0) (by simp only [List.length_map, List.length_cons, List.length_nil]; omega))) ?_;refine RL.eS (.fieldA fo47_1 rfl) ?_;refine RL.eS (.load1 sh2 rfl ((hl.sub S).cell (enc := It.cells) (j := 1) hx rfl)) ?_;refine RL.eS (.buildS ze31 pl31 rfl rfl) ?_;refine RL.alloc ze31 rfl rfl (fun b_8 w_8 e_8 z_8 hb_8 s_8 => ?_);have ge_8 := S.le e_8;have n_3__8 := hb_3.ne e_8;have n_5__8 := hb_5.ne e_8;have S := S.trans s_8;have hb_3 := hb_3.sub s_8;have hb_5 := hb_5.sub s_8;refine RL.stS sh31 rfl rfl rfl hb_8 (fun w9 z9 hb_8 a9 => ?_);have S := S.upd a9 ge_8;have hb_3 := hb_3.upd a9 n_3__8;have hb_5 := hb_5.upd a9 n_5__8
   have hb_8 : Has w9 b_8 ([.int .i64 0, .int .i64 x.v, .int .i64 0]) _ := hb_8.now (by kernel_rfl)
   refine RL.nil (RC.back (RC.seq (RC.seq (RC.region rfl ?_))));refine RL.eS (.field0 fo27_1 rfl) ?_;refine RL.eS (.load1 sh3 rfl (hb_3.cell rfl)) ?_;refine RL.eS (.bin rfl rfl rfl) ?_;refine RL.nil (RC.back ?_);refine RC.cond_dec rfl (fun h10 => ?_) (fun h10 => ?_)
   ·
    have k35 := h10
    refine RC.region rfl ?_;refine RL.mvS rfl ?_;refine RL.call rfl ok48 (c_clone l a c _ rfl w9 (hl.sub S) (by omega)) rfl rfl ?_;rintro _ w11 ⟨a7, c7, rfl, o7, s12⟩
    have lt3 := hb_3.lt
    have lt5 := hb_5.lt
    have ltX := hb_8.lt
    have szS := S.size;have S := S.trans s12;have hb_3 := hb_3.sub s12;have hb_5 := hb_5.sub s12;have hb_8 := hb_8.sub s12
    obtain ⟨b_g, ex, e1, hbg, hb_g, hex, hcm⟩ := o7.whole.resolve_left (fun q => by have := congrArg List.length q.2; simp only [List.length_map, List.length_nil] at this; omega)
    rw [List.length_map] at e1 hcm
    injection e1 with f1 f2 f3
    subst f1 f3
    have ge_g : w.heap.size ≤ b_g := Nat.le_trans szS hbg
    have nb_3_b_g : b_3 ≠ b_g := by omega
    have nb_5_b_g : b_5 ≠ b_g := by omega
    have nb_8_b_g : b_8 ≠ b_g := by omega
    refine RL.mvS rfl ?_;refine RL.mvS rfl ?_;refine RL.eS (.as (.bin rfl rfl rfl) (wi64 (y := ((n' + 1 : Nat) : Int)) (by omega) (by omega))) ?_;refine RL.call rfl ok47 (c_delete l b_g n' ex hex (Nat.le_trans hcm (by decide)) hnl w11 hb_g) rfl rfl ?_;rintro _ w13 ⟨rfl, ⟨R41, hb_g, hR41, hT41⟩, a41⟩;have S := S.upd a41 ge_g;have hb_3 := hb_3.upd a41 nb_3_b_g;have hb_5 := hb_5.upd a41 nb_5_b_g;have hb_8 := hb_8.upd a41 nb_8_b_g;refine RL.asS rfl ?_;refine RL.nil (RC.back (RC.seq ?_));refine RC.drawD (fun k => k = b_5) [3] w13.heap.size 4 rfl rfl mxo (fun w15 s16 => ?_)
    have hNN : ∀ k, ((k = b_5) ∨ w13.heap.size ≤ k) → w.heap.size ≤ k := fun k e => e.elim (fun e => e ▸ ge_5) (fun e => Nat.le_trans S.size e)
    have hN0 : ∀ k, w13.heap.size ≤ k → w.heap.size ≤ k := fun k e => Nat.le_trans S.size e
    have ltD_b_8 := hb_8.lt;have szD := Nat.le_refl w13.heap.size;have S := S.trans s16;have hb_3 := hb_3.sub s16;have hb_5 := hb_5.sub s16;have hb_8 := hb_8.sub s16;have hb_g := hb_g.sub s16;have szD := Nat.le_trans szD s16.size;refine RD.tS 0 rfl (fun w' s' => .move rfl) ?_;refine RD.tS 1 rfl (fun w' s' => .loadR ([.int .i64 0, .int .i64 x.v, .int .i64 0]) sh31 rfl (hb_8.step s' (fun e => e.elim (fun e => n_5__8.symm e) (fun e => Nat.not_le.2 ltD_b_8 e))).row rfl) ?_;refine RD.tS 2 rfl (fun w' s' => .assign rfl) ?_;refine RD.oneS 3 rfl ?_;refine RL.stS sh31 rfl rfl rfl hb_5 (fun w17 z17 hb_5 a17 => ?_);have S := S.upd a17 ge_5;have hb_3 := hb_3.upd a17 n_3__5;have hb_8 := hb_8.upd a17 n_5__8.symm;have hb_g := hb_g.upd a17 nb_5_b_g.symm;have szD := Nat.le_trans szD a17.size
    have hb_5 : Has w17 b_5 ([.int .i64 0, .int .i64 x.v, .int .i64 0]) _ := hb_5.now (by kernel_rfl)
    refine RD.backW rfl (a17.mono fun k _ e => e ▸ (.inl (rfl))) ?_;refine RD.done (by kernel_rfl) (RC.back ?_);refine RC.done (rs := [.tmp 4, .cell 5 31]) (vs := [_, _]) rfl rfl ⟨rfl, ⟨_, rfl, .inr ⟨[.int .i64 0, .int .i64 x.v, .int .i64 0], sh31, hb_5.row, rfl⟩⟩, trivial⟩ ?_
    exact absurd k35 (by omega)
   ·
    have k35 := h10
    refine RC.skip (RC.back (RC.seq ?_));refine RC.drawD (fun k => k = b_5) [3] w9.heap.size 4 rfl rfl mxo (fun w18 s19 => ?_)
    have hNN : ∀ k, ((k = b_5) ∨ w9.heap.size ≤ k) → w.heap.size ≤ k := fun k e => e.elim (fun e => e ▸ ge_5) (fun e => Nat.le_trans S.size e)
    have hN0 : ∀ k, w9.heap.size ≤ k → w.heap.size ≤ k := fun k e => Nat.le_trans S.size e
    have ltD_b_8 := hb_8.lt;have szD := Nat.le_refl w9.heap.size;have S := S.trans s19;have hb_3 := hb_3.sub s19;have hb_5 := hb_5.sub s19;have hb_8 := hb_8.sub s19;have szD := Nat.le_trans szD s19.size;refine RD.tS 0 rfl (fun w' s' => .move rfl) ?_;refine RD.tS 1 rfl (fun w' s' => .loadR ([.int .i64 0, .int .i64 x.v, .int .i64 0]) sh31 rfl (hb_8.step s' (fun e => e.elim (fun e => n_5__8.symm e) (fun e => Nat.not_le.2 ltD_b_8 e))).row rfl) ?_;refine RD.tS 2 rfl (fun w' s' => .assign rfl) ?_;refine RD.oneS 3 rfl ?_;refine RL.stS sh31 rfl rfl rfl hb_5 (fun w20 z20 hb_5 a20 => ?_);have S := S.upd a20 ge_5;have hb_3 := hb_3.upd a20 n_3__5;have hb_8 := hb_8.upd a20 n_5__8.symm;have szD := Nat.le_trans szD a20.size
    have hb_5 : Has w20 b_5 ([.int .i64 0, .int .i64 x.v, .int .i64 0]) _ := hb_5.now (by kernel_rfl)
    refine RD.backW rfl (a20.mono fun k _ e => e ▸ (.inl (rfl))) ?_;refine RD.done (by kernel_rfl) (RC.back ?_);refine RC.done (rs := [.tmp 4, .cell 5 31]) (vs := [_, _]) rfl rfl ⟨rfl, ⟨_, rfl, .inr ⟨[.int .i64 0, .int .i64 x.v, .int .i64 0], sh31, hb_5.row, rfl⟩⟩, trivial⟩ ?_
    have he : pairsM l o = (l, ⟨0, x.v, 0⟩) := (by rw [hdef, if_neg (by omega), if_neg (by omega), if_neg (by omega), if_neg (by omega), if_neg (by rw [is1]; simp), if_neg k35, hva])
    rw [he]
    exact ⟨S, _, _, M, rfl, hc, hF.sub S, Up.refl _ _⟩
 ·
  have n20 := h3
  refine RC.region rfl ?_;refine RL.eS (.bin rfl rfl rfl) ?_;refine RL.asS rfl ?_;refine RL.nil (RC.back ?_);refine RC.cond_dec rfl (fun h21 => ?_) (fun h21 => ?_)
  ·
   have k20 := h21
   refine RC.seq (RC.seq (RC.region rfl ?_));refine RL.mvS rfl ?_;refine RL.eS (.not rfl) ?_;refine RL.nil (RC.back ?_);refine RC.cond rfl (fun h22 => ?_) (fun h22 => ?_)
   ·
    have is0 : is = false := (by simpa using h22)
    refine RC.seq (RC.region rfl ?_);refine RL.mvS rfl ?_;refine RL.call rfl ok46 (c_none w1) rfl rfl ?_;rintro _ w23 ⟨rfl, s24⟩;have S := S.trans s24;have hb_3 := hb_3.sub s24;have hb_5 := hb_5.sub s24;refine RL.asS rfl ?_;refine RL.stS sh31 rfl rfl rfl hb_5 (fun w25 z25 hb_5 a25 => ?_);have S := S.upd a25 ge_5;have hb_3 := hb_3.upd a25 n_3__5
    have hb_5 : Has w25 b_5 ([.int .i64 3, .int .i64 0, .int .i64 0]) _ := hb_5.now (by kernel_rfl)
    refine RL.nil (RC.back ?_);refine RC.done (rs := [.tmp 4, .cell 5 31]) (vs := [_, _]) rfl rfl ⟨rfl, ⟨_, rfl, .inr ⟨[.int .i64 3, .int .i64 0, .int .i64 0], sh31, hb_5.row, rfl⟩⟩, trivial⟩ ?_
    have he : pairsM l o = (l, ⟨3, 0, 0⟩) := (by rw [hdef, if_neg (by omega), if_neg (by omega), if_neg (by omega), if_neg (by omega), if_pos is0])
    rw [he]
    exact ⟨S, _, _, M, rfl, hc, hF.sub S, Up.refl _ _⟩
   ·
    have is1 : is = true := (by simpa using h22)
    obtain ⟨x, hx, hxk⟩ := g0.1 is1
    have hnl := lt_of_get hx
    have hva := valAt_get hx
    refine RC.skip (RC.back (RC.seq (RC.region rfl ?_)));refine RL.mvS rfl ?_;refine RL.mvS rfl ?_;refine RL.eS (.indexS sl22 rfl rfl (by omega) (hl.is (i := 0) (by simp only [List.length_map, List.length_cons, List.length_nil]; omega))) ?_;refine RL.eS (.fieldA fo47_1 rfl) ?_;refine RL.eS (.load1 sh2 rfl ((hl.sub S).cell (enc := It.cells) (j := 1) hx rfl)) ?_;refine RL.eS (.buildS ze31 pl31 rfl rfl) ?_;refine RL.alloc ze31 rfl rfl (fun b_8 w_8 e_8 z_8 hb_8 s_8 => ?_);have ge_8 := S.le e_8;have n_3__8 := hb_3.ne e_8;have n_5__8 := hb_5.ne e_8;have S := S.trans s_8;have hb_3 := hb_3.sub s_8;have hb_5 := hb_5.sub s_8;refine RL.stS sh31 rfl rfl rfl hb_8 (fun w26 z26 hb_8 a26 => ?_);have S := S.upd a26 ge_8;have hb_3 := hb_3.upd a26 n_3__8;have hb_5 := hb_5.upd a26 n_5__8
    have hb_8 : Has w26 b_8 ([.int .i64 0, .int .i64 x.v, .int .i64 0]) _ := hb_8.now (by kernel_rfl)
    refine RL.nil (RC.back (RC.seq (RC.seq (RC.region rfl ?_))));refine RL.eS (.field0 fo27_1 rfl) ?_;refine RL.eS (.load1 sh3 rfl (hb_3.cell rfl)) ?_;refine RL.eS (.bin rfl rfl rfl) ?_;refine RL.nil (RC.back ?_);refine RC.cond_dec rfl (fun h27 => ?_) (fun h27 => ?_)
    ·
     have k35 := h27
     refine RC.region rfl ?_;refine RL.mvS rfl ?_;refine RL.call rfl ok48 (c_clone l a c _ rfl w26 (hl.sub S) (by omega)) rfl rfl ?_;rintro _ w28 ⟨a7, c7, rfl, o7, s29⟩
     have lt3 := hb_3.lt
     have lt5 := hb_5.lt
     have ltX := hb_8.lt
     have szS := S.size;have S := S.trans s29;have hb_3 := hb_3.sub s29;have hb_5 := hb_5.sub s29;have hb_8 := hb_8.sub s29
     obtain ⟨b_g, ex, e1, hbg, hb_g, hex, hcm⟩ := o7.whole.resolve_left (fun q => by have := congrArg List.length q.2; simp only [List.length_map, List.length_nil] at this; omega)
     rw [List.length_map] at e1 hcm
     injection e1 with f1 f2 f3
     subst f1 f3
     have ge_g : w.heap.size ≤ b_g := Nat.le_trans szS hbg
     have nb_3_b_g : b_3 ≠ b_g := by omega
     have nb_5_b_g : b_5 ≠ b_g := by omega
     have nb_8_b_g : b_8 ≠ b_g := by omega
     refine RL.mvS rfl ?_;refine RL.mvS rfl ?_;refine RL.eS (.as (.bin rfl rfl rfl) (wi64 (y := ((n' + 1 : Nat) : Int)) (by omega) (by omega))) ?_;refine RL.call rfl ok47 (c_delete l b_g n' ex hex (Nat.le_trans hcm (by decide)) hnl w28 hb_g) rfl rfl ?_;rintro _ w30 ⟨rfl, ⟨R41, hb_g, hR41, hT41⟩, a41⟩;have S := S.upd a41 ge_g;have hb_3 := hb_3.upd a41 nb_3_b_g;have hb_5 := hb_5.upd a41 nb_5_b_g;have hb_8 := hb_8.upd a41 nb_8_b_g;refine RL.asS rfl ?_;refine RL.nil (RC.back (RC.seq ?_));refine RC.drawD (fun k => k = b_5) [3] w30.heap.size 4 rfl rfl mxo (fun w32 s33 => ?_)
     have hNN : ∀ k, ((k = b_5) ∨ w30.heap.size ≤ k) → w.heap.size ≤ k := fun k e => e.elim (fun e => e ▸ ge_5) (fun e => Nat.le_trans S.size e)
     have hN0 : ∀ k, w30.heap.size ≤ k → w.heap.size ≤ k := fun k e => Nat.le_trans S.size e
     have ltD_b_8 := hb_8.lt;have szD := Nat.le_refl w30.heap.size;have S := S.trans s33;have hb_3 := hb_3.sub s33;have hb_5 := hb_5.sub s33;have hb_8 := hb_8.sub s33;have hb_g := hb_g.sub s33;have szD := Nat.le_trans szD s33.size;refine RD.tS 0 rfl (fun w' s' => .move rfl) ?_;refine RD.tS 1 rfl (fun w' s' => .loadR ([.int .i64 0, .int .i64 x.v, .int .i64 0]) sh31 rfl (hb_8.step s' (fun e => e.elim (fun e => n_5__8.symm e) (fun e => Nat.not_le.2 ltD_b_8 e))).row rfl) ?_;refine RD.tS 2 rfl (fun w' s' => .assign rfl) ?_;refine RD.oneS 3 rfl ?_;refine RL.stS sh31 rfl rfl rfl hb_5 (fun w34 z34 hb_5 a34 => ?_);have S := S.upd a34 ge_5;have hb_3 := hb_3.upd a34 n_3__5;have hb_8 := hb_8.upd a34 n_5__8.symm;have hb_g := hb_g.upd a34 nb_5_b_g.symm;have szD := Nat.le_trans szD a34.size
     have hb_5 : Has w34 b_5 ([.int .i64 0, .int .i64 x.v, .int .i64 0]) _ := hb_5.now (by kernel_rfl)
     refine RD.backW rfl (a34.mono fun k _ e => e ▸ (.inl (rfl))) ?_;refine RD.done (by kernel_rfl) (RC.back ?_);refine RC.done (rs := [.tmp 4, .cell 5 31]) (vs := [_, _]) rfl rfl ⟨rfl, ⟨_, rfl, .inr ⟨[.int .i64 0, .int .i64 x.v, .int .i64 0], sh31, hb_5.row, rfl⟩⟩, trivial⟩ ?_
     have he : pairsM l o = (l.take n' ++ l.drop (n' + 1), ⟨0, x.v, 0⟩) := (by rw [hdef, if_neg (by omega), if_neg (by omega), if_neg (by omega), if_neg (by omega), if_neg (by rw [is1]; simp), if_pos k35, hva, del_has hs hx hxk])
     rw [he]
     exact ⟨S, _, _, (· = b_g), by rw [show (l.take n' ++ l.drop (n' + 1)).length = l.length - 1 from by rw [List.length_append, List.length_take, List.length_drop]; omega]; rfl, by rw [List.length_append, List.length_take, List.length_drop]; omega, (by have q := (Has.ftW hb_g).imp (fun u h => Has.slN h hR41 (l.length - 1)); rw [hT41] at q; exact q), fun k hk => .inr (by rw [hk]; exact ge_g)⟩
    ·
     have k35 := h27
     refine RC.skip (RC.back (RC.seq ?_));refine RC.drawD (fun k => k = b_5) [3] w26.heap.size 4 rfl rfl mxo (fun w35 s36 => ?_)
     have hNN : ∀ k, ((k = b_5) ∨ w26.heap.size ≤ k) → w.heap.size ≤ k := fun k e => e.elim (fun e => e ▸ ge_5) (fun e => Nat.le_trans S.size e)
     have hN0 : ∀ k, w26.heap.size ≤ k → w.heap.size ≤ k := fun k e => Nat.le_trans S.size e
     have ltD_b_8 := hb_8.lt;have szD := Nat.le_refl w26.heap.size;have S := S.trans s36;have hb_3 := hb_3.sub s36;have hb_5 := hb_5.sub s36;have hb_8 := hb_8.sub s36;have szD := Nat.le_trans szD s36.size;refine RD.tS 0 rfl (fun w' s' => .move rfl) ?_;refine RD.tS 1 rfl (fun w' s' => .loadR ([.int .i64 0, .int .i64 x.v, .int .i64 0]) sh31 rfl (hb_8.step s' (fun e => e.elim (fun e => n_5__8.symm e) (fun e => Nat.not_le.2 ltD_b_8 e))).row rfl) ?_;refine RD.tS 2 rfl (fun w' s' => .assign rfl) ?_;refine RD.oneS 3 rfl ?_;refine RL.stS sh31 rfl rfl rfl hb_5 (fun w37 z37 hb_5 a37 => ?_);have S := S.upd a37 ge_5;have hb_3 := hb_3.upd a37 n_3__5;have szD := Nat.le_trans szD a37.size
     have hb_5 : Has w37 b_5 ([.int .i64 0, .int .i64 x.v, .int .i64 0]) _ := hb_5.now (by kernel_rfl)
     refine RD.backW rfl (a37.mono fun k _ e => e ▸ (.inl (rfl))) ?_;refine RD.done (by kernel_rfl) (RC.back ?_);refine RC.done (rs := [.tmp 4, .cell 5 31]) (vs := [_, _]) rfl rfl ⟨rfl, ⟨_, rfl, .inr ⟨[.int .i64 0, .int .i64 x.v, .int .i64 0], sh31, hb_5.row, rfl⟩⟩, trivial⟩ ?_
     exact absurd k20 (by omega)
  ·
   have n20 := h21
   refine RC.seq (RC.region rfl ?_);refine RL.eS (.bin rfl rfl rfl) ?_;refine RL.asS rfl ?_;refine RL.nil (RC.back ?_);refine RC.cond_dec rfl (fun h38 => ?_) (fun h38 => ?_)
   ·
    have k44 := h38
    refine RC.seq (RC.region rfl ?_);refine RL.eS (.field0 fo27_2 rfl) ?_;refine RL.eS (.load1 sh2 rfl (hb_3.cell rfl)) ?_;refine RL.eS (.field0 fo27_3 rfl) ?_;refine RL.eS (.load1 sh2 rfl (hb_3.cell rfl)) ?_;refine RL.eS (.buildS ze47 pl47 rfl rfl) ?_;refine RL.alloc ze47 rfl rfl (fun b_9 w_9 e_9 z_9 hb_9 s_9 => ?_);have ge_9 := S.le e_9;have n_3__9 := hb_3.ne e_9;have n_5__9 := hb_5.ne e_9;have S := S.trans s_9;have hb_3 := hb_3.sub s_9;have hb_5 := hb_5.sub s_9;refine RL.stS sh47 rfl rfl rfl hb_9 (fun w39 z39 hb_9 a39 => ?_);have S := S.upd a39 ge_9;have hb_3 := hb_3.upd a39 n_3__9;have hb_5 := hb_5.upd a39 n_5__9
    have hb_9 : Has w39 b_9 ([.int .i64 o.a, .int .i64 o.b]) _ := hb_9.now (by kernel_rfl)
    refine RL.nil (RC.back (RC.seq (RC.seq (RC.region rfl ?_))));refine RL.mvS rfl ?_;refine RL.nil (RC.back ?_);refine RC.cond rfl (fun h40 => ?_) (fun h40 => ?_)
    ·
     have is1 : is = true := h40
     obtain ⟨x, hx, hxk⟩ := g0.1 is1
     have hnl := lt_of_get hx
     have hva := valAt_get hx
     refine RC.seq (RC.region rfl ?_);refine RL.mvS rfl ?_;refine RL.mvS rfl ?_;refine RL.eS (.indexS sl22 rfl rfl (by omega) (hl.is (i := 0) (by simp only [List.length_map, List.length_cons, List.length_nil]; omega))) ?_;refine RL.eS (.fieldA fo47_1 rfl) ?_;refine RL.eS (.load1 sh2 rfl ((hl.sub S).cell (enc := It.cells) (j := 1) hx rfl)) ?_;refine RL.eS (.buildS ze31 pl31 rfl rfl) ?_;refine RL.alloc ze31 rfl rfl (fun b_10 w_10 e_10 z_10 hb_10 s_10 => ?_);have ge_10 := S.le e_10;have n_3__10 := hb_3.ne e_10;have n_5__10 := hb_5.ne e_10;have n_9__10 := hb_9.ne e_10;have S := S.trans s_10;have hb_3 := hb_3.sub s_10;have hb_5 := hb_5.sub s_10;have hb_9 := hb_9.sub s_10;refine RL.stS sh31 rfl rfl rfl hb_10 (fun w41 z41 hb_10 a41 => ?_);have S := S.upd a41 ge_10;have hb_3 := hb_3.upd a41 n_3__10;have hb_5 := hb_5.upd a41 n_5__10;have hb_9 := hb_9.upd a41 n_9__10
     have hb_10 : Has w41 b_10 ([.int .i64 0, .int .i64 1, .int .i64 x.v]) _ := hb_10.now (by kernel_rfl)
     refine RL.nil (RC.back (RC.seq (RC.region rfl ?_)));refine RL.mvS rfl ?_;refine RL.call rfl ok48 (c_clone l a c _ rfl w41 (hl.sub S) (by omega)) rfl rfl ?_;rintro _ w42 ⟨a7, c7, rfl, o7, s43⟩
     have lt3 := hb_3.lt
     have lt5 := hb_5.lt
     have lt9 := hb_9.lt
     have ltX := hb_10.lt
     have szS := S.size;have S := S.trans s43;have hb_3 := hb_3.sub s43;have hb_5 := hb_5.sub s43;have hb_9 := hb_9.sub s43;have hb_10 := hb_10.sub s43
     obtain ⟨b_g, ex, e1, hbg, hb_g, hex, hcm⟩ := o7.whole.resolve_left (fun q => by have := congrArg List.length q.2; simp only [List.length_map, List.length_nil] at this; omega)
     rw [List.length_map] at e1 hcm
     injection e1 with f1 f2 f3
     subst f1 f3
     have ge_g : w.heap.size ≤ b_g := Nat.le_trans szS hbg
     have nb_3_b_g : b_3 ≠ b_g := by omega
     have nb_5_b_g : b_5 ≠ b_g := by omega
     have nb_10_b_g : b_10 ≠ b_g := by omega
     have nb_9_b_g : b_9 ≠ b_g := by omega
     refine RL.asS rfl ?_;refine RL.nil (RC.back (RC.seq (RC.region rfl ?_)));refine RL.mvS rfl ?_;refine RL.mvS rfl ?_;refine RL.eS (.loadR ([.int .i64 o.a, .int .i64 o.b]) sh47 rfl (hb_9.row) rfl) ?_;refine RL.eS (.indexO sl22 rfl rfl (by omega)) ?_;refine RL.store sh47 rfl rfl rfl hb_g (by have q := flat_len (l.map It.cells ++ ex) (fun r hr => (List.mem_append.1 hr).elim (it_rows r) (hex r)); rw [q, List.length_append, List.length_map]; show 0 + n' * 2 + 2 ≤ _; omega) (by rfl) rfl (fun w44 z44 hb_g a44 => ?_);have S := S.upd a44 ge_g;have hb_3 := hb_3.upd a44 nb_3_b_g;have hb_5 := hb_5.upd a44 nb_5_b_g;have hb_9 := hb_9.upd a44 nb_9_b_g;have hb_10 := hb_10.upd a44 nb_10_b_g
     rw [Nat.zero_add] at hb_g
     have hrw : ∀ r ∈ l.map It.cells ++ ex, r.length = 2 := (fun r hr => (List.mem_append.1 hr).elim (it_rows r) (hex r))
     have hb_g := row_set0 (sz := 2) (i := n') hb_g hrw (by rw [List.length_append, List.length_map]; omega) rfl
     refine RL.nil (RC.back (RC.seq ?_));refine RC.drawD (fun k => k = b_5) [3] w44.heap.size 4 rfl rfl mxo (fun w45 s46 => ?_)
     have hNN : ∀ k, ((k = b_5) ∨ w44.heap.size ≤ k) → w.heap.size ≤ k := fun k e => e.elim (fun e => e ▸ ge_5) (fun e => Nat.le_trans S.size e)
     have hN0 : ∀ k, w44.heap.size ≤ k → w.heap.size ≤ k := fun k e => Nat.le_trans S.size e
     have ltD_b_9 := hb_9.lt;have ltD_b_10 := hb_10.lt;have szD := Nat.le_refl w44.heap.size;have S := S.trans s46;have hb_3 := hb_3.sub s46;have hb_5 := hb_5.sub s46;have hb_9 := hb_9.sub s46;have hb_10 := hb_10.sub s46;have hb_g := hb_g.sub s46;have szD := Nat.le_trans szD s46.size;refine RD.tS 0 rfl (fun w' s' => .move rfl) ?_;refine RD.tS 1 rfl (fun w' s' => .loadR ([.int .i64 0, .int .i64 1, .int .i64 x.v]) sh31 rfl (hb_10.step s' (fun e => e.elim (fun e => n_5__10.symm e) (fun e => Nat.not_le.2 ltD_b_10 e))).row rfl) ?_;refine RD.tS 2 rfl (fun w' s' => .assign rfl) ?_;refine RD.oneS 3 rfl ?_;refine RL.stS sh31 rfl rfl rfl hb_5 (fun w47 z47 hb_5 a47 => ?_);have S := S.upd a47 ge_5;have hb_3 := hb_3.upd a47 n_3__5;have hb_9 := hb_9.upd a47 n_5__9.symm;have hb_g := hb_g.upd a47 nb_5_b_g.symm;have szD := Nat.le_trans szD a47.size
     have hb_5 : Has w47 b_5 ([.int .i64 0, .int .i64 1, .int .i64 x.v]) _ := hb_5.now (by kernel_rfl)
     refine RD.backW rfl (a47.mono fun k _ e => e ▸ (.inl (rfl))) ?_;refine RD.done (by kernel_rfl) (RC.back ?_);refine RC.done (rs := [.tmp 4, .cell 5 31]) (vs := [_, _]) rfl rfl ⟨rfl, ⟨_, rfl, .inr ⟨[.int .i64 0, .int .i64 1, .int .i64 x.v], sh31, hb_5.row, rfl⟩⟩, trivial⟩ ?_
     have hst : (l.map It.cells ++ ex).set n' [.int .i64 o.a, .int .i64 o.b] = (l.set n' ⟨o.a, o.b⟩).map It.cells ++ ex := (by rw [List.set_append_left _ _ (by rw [List.length_map]; exact hnl), List.map_set]; rfl)
     have he : pairsM l o = (l.set n' ⟨o.a, o.b⟩, ⟨0, 1, x.v⟩) := (by rw [hdef, if_neg (by omega), if_pos k44, if_neg (by rw [is1]; simp), if_pos is1, hva, put_has hs hx hxk, List.set_eq_take_append_cons_drop, if_pos hnl])
     rw [he]
     exact ⟨S, _, _, (· = b_g), by rw [List.length_set]; rfl, by rw [List.length_set]; omega, (by have q : Has _ b_g ((l.map It.cells ++ ex).set n' [.int .i64 o.a, .int .i64 o.b]).flatten _ := hb_g; rw [hst] at q; exact (Has.ftW q).imp (fun u h => wh_sl h)), fun k hk => .inr (by rw [hk]; exact ge_g)⟩
    ·
     have is0 : is = false := h40
     refine RC.skip (RC.back (RC.seq (RC.seq (RC.region rfl ?_))));refine RL.mvS rfl ?_;refine RL.eS (.len sl22 rfl) ?_;refine RL.eS (.bin rfl rfl rfl) ?_;refine RL.mvS rfl ?_;refine RL.split 69 rfl (fun h48 => ?_) (fun h48 => ?_)
     ·
      have g69 : 200 ≤ l.length := (by omega)
      refine RL.offs 10 rfl ?_;refine RL.eS (.pick_t rfl rfl) ?_;refine RL.nil (RC.back ?_);refine RC.cond_t rfl ?_;refine RC.seq (RC.region rfl ?_);refine RL.mvS rfl ?_;refine RL.call rfl ok49 (c_full w39) rfl rfl ?_;rintro _ w49 ⟨rfl, s50⟩;have S := S.trans s50;have hb_3 := hb_3.sub s50;have hb_5 := hb_5.sub s50;have hb_9 := hb_9.sub s50;refine RL.asS rfl ?_;refine RL.stS sh31 rfl rfl rfl hb_5 (fun w51 z51 hb_5 a51 => ?_);have S := S.upd a51 ge_5;have hb_3 := hb_3.upd a51 n_3__5;have hb_9 := hb_9.upd a51 n_5__9.symm
      have hb_5 : Has w51 b_5 ([.int .i64 5, .int .i64 0, .int .i64 0]) _ := hb_5.now (by kernel_rfl)
      refine RL.nil (RC.back ?_);refine RC.done (rs := [.tmp 4, .cell 5 31]) (vs := [_, _]) rfl rfl ⟨rfl, ⟨_, rfl, .inr ⟨[.int .i64 5, .int .i64 0, .int .i64 0], sh31, hb_5.row, rfl⟩⟩, trivial⟩ ?_
      have he : pairsM l o = (l, ⟨5, 0, 0⟩) := (by rw [hdef, if_neg (by omega), if_pos k44, if_pos ⟨is0, .inl g69⟩])
      rw [he]
      exact ⟨S, _, _, M, rfl, hc, hF.sub S, Up.refl _ _⟩
     ·
      have g69 : ¬ 200 ≤ l.length := (by omega)
      refine RL.eS (.field0 fo27_0 rfl) ?_;refine RL.eS (.load1 sh3 rfl (hb_3.cell rfl)) ?_;refine RL.eS (.bin rfl rfl rfl) ?_;refine RL.mvS rfl ?_;refine RL.split 73 rfl (fun h52 => ?_) (fun h52 => ?_)
      ·
       have g73 : o.box = 2 := h52
       refine RL.mvS rfl ?_;refine RL.eS (.field0 fo27_2 rfl) ?_;refine RL.eS (.load1 sh2 rfl (hb_3.cell rfl)) ?_;refine RL.call rfl ok18 (c_crowd l a c _ rfl o.a w39 (hl.sub S) (by omega)) rfl rfl ?_;rintro _ w53 ⟨rfl, s54⟩;have S := S.trans s54;have hb_3 := hb_3.sub s54;have hb_5 := hb_5.sub s54;have hb_9 := hb_9.sub s54;refine RL.eS (.bin rfl rfl rfl) ?_;refine RL.eS (.pick_t rfl rfl) ?_;refine RL.eS (.pick_f rfl rfl) ?_;refine RL.nil (RC.back ?_);refine RC.cond_dec rfl (fun h55 => ?_) (fun h55 => ?_)
       ·
        have g80 : 9 ≤ crowdL l o.a := (by omega)
        refine RC.seq (RC.region rfl ?_);refine RL.mvS rfl ?_;refine RL.call rfl ok49 (c_full w53) rfl rfl ?_;rintro _ w56 ⟨rfl, s57⟩;have S := S.trans s57;have hb_3 := hb_3.sub s57;have hb_5 := hb_5.sub s57;have hb_9 := hb_9.sub s57;refine RL.asS rfl ?_;refine RL.stS sh31 rfl rfl rfl hb_5 (fun w58 z58 hb_5 a58 => ?_);have S := S.upd a58 ge_5;have hb_3 := hb_3.upd a58 n_3__5;have hb_9 := hb_9.upd a58 n_5__9.symm
        have hb_5 : Has w58 b_5 ([.int .i64 5, .int .i64 0, .int .i64 0]) _ := hb_5.now (by kernel_rfl)
        refine RL.nil (RC.back ?_);refine RC.done (rs := [.tmp 4, .cell 5 31]) (vs := [_, _]) rfl rfl ⟨rfl, ⟨_, rfl, .inr ⟨[.int .i64 5, .int .i64 0, .int .i64 0], sh31, hb_5.row, rfl⟩⟩, trivial⟩ ?_
        have he : pairsM l o = (l, ⟨5, 0, 0⟩) := (by rw [hdef, if_neg (by omega), if_pos k44, if_pos ⟨is0, .inr ⟨g73, g80⟩⟩])
        rw [he]
        exact ⟨S, _, _, M, rfl, hc, hF.sub S, Up.refl _ _⟩
       ·
        have g80 : ¬ 9 ≤ crowdL l o.a := (by omega)
        refine RC.skip (RC.back (RC.seq ?_));refine RC.drawD (fun k => k = b_5) [5, 8] w53.heap.size 9 rfl rfl mxo (fun w59 s60 => ?_)
        have hNN : ∀ k, ((k = b_5) ∨ w53.heap.size ≤ k) → w.heap.size ≤ k := fun k e => e.elim (fun e => e ▸ ge_5) (fun e => Nat.le_trans S.size e)
        have hN0 : ∀ k, w53.heap.size ≤ k → w.heap.size ≤ k := fun k e => Nat.le_trans S.size e
        have ltD_b_9 := hb_9.lt;have szD := Nat.le_refl w53.heap.size;have S := S.trans s60;have hb_3 := hb_3.sub s60;have hb_5 := hb_5.sub s60;have hb_9 := hb_9.sub s60;have szD := Nat.le_trans szD s60.size;refine RD.tS 0 rfl (fun w' s' => .move rfl) ?_;refine RD.tS 2 rfl (fun w' s' => .move rfl) ?_;refine RD.tS 3 rfl (fun w' s' => .loadR ([.int .i64 o.a, .int .i64 o.b]) sh47 rfl (hb_9.step s' (fun e => e.elim (fun e => n_5__9.symm e) (fun e => Nat.not_le.2 ltD_b_9 e))).row rfl) ?_;refine RD.tS 6 rfl (fun w' s' => .buildS ze31 pl31 rfl rfl) ?_;refine RD.all [1, 4] (by kernel_rfl) rfl (RDs.cons rfl ?_ (RDs.cons rfl ?_ (RDs.nil)))
        ·
         refine RL.call rfl ok48 (c_clone l a c _ rfl w59 (hl.sub S) (by omega)) rfl rfl ?_;rintro _ w61 ⟨a84, c84, rfl, o84, s62⟩
         have lt3 := hb_3.lt
         have lt5 := hb_5.lt
         have lt9 := hb_9.lt
         have szS := S.size;have szD84 := szD;have szB84 := s62.size;have S := S.trans s62;have hb_3 := hb_3.sub s62;have hb_5 := hb_5.sub s62;have hb_9 := hb_9.sub s62;have szD := Nat.le_trans szD s62.size
         have d84_3 : ∀ k, ob (.slice a84 l.length c84) = some k → k ≠ b_3 := (fun k hk e => by have := (o84.ge k hk).1; omega)
         have d84_5 : ∀ k, ob (.slice a84 l.length c84) = some k → k ≠ b_5 := (fun k hk e => by have := (o84.ge k hk).1; omega)
         have d84_9 : ∀ k, ob (.slice a84 l.length c84) = some k → k ≠ b_9 := (fun k hk e => by have := (o84.ge k hk).1; omega)
         have o84w := o84.whole
         refine RD.back s62.agr ?_;refine RD.oneS 4 rfl ?_;refine RL.buildSlice1 sl22 _ ze47 rfl rfl rfl rfl rfl rfl rfl (fun b_87 w_87 e_87 z_87 hb_87 s_87 => ?_)
         have fr_b_87 : w53.heap.size ≤ b_87 := by rw [e_87]; exact szD
         have d_o84_b_87 := o84.neNew e_87;have S := S.trans s_87;have hb_3 := hb_3.sub s_87;have hb_5 := hb_5.sub s_87;have hb_9 := hb_9.sub s_87;have szD := Nat.le_trans szD s_87.size;have szB84 := Nat.le_trans szB84 s_87.size;have o84 := o84.sub s_87;refine RD.back s_87.agr ?_;refine RD.oneS 5 rfl ?_;refine RL.call rfl ok50 (c_insert l ⟨o.a, o.b⟩ _ a84 c84 b_87 n' w_87 o84 szB84 (by rcases o84w with ⟨q, _⟩ | ⟨g, ex, q, _, _, _, q2⟩; injection q with _ _ q; omega; injection q with _ _ q; rw [q]; exact Nat.le_trans q2 (by decide)) (by omega) g3 hb_87 (by first | exact d_o84_b_87 | exact (fun k hk e => by have := (o84.ge k hk).1; omega))) rfl rfl ?_;rintro _ w63 ⟨a88', c88', M88, rfl, hc88, hF88, hM88, a88⟩
         have S := S.agrN a88 (fun k e => Nat.le_trans szS (o84.ge k e).1)
         have hb_3 := hb_3.step a88 (fun e => d84_3 _ e rfl);have hb_5 := hb_5.step a88 (fun e => d84_5 _ e rfl);have hb_9 := hb_9.step a88 (fun e => d84_9 _ e rfl);have szD := Nat.le_trans szD a88.size
         have d88_5 : ∀ k, M88 k → k ≠ b_5 := (fun k hk e => by have := hM88 k hk; omega)
         have d88_3 : ∀ k, M88 k → k ≠ b_3 := (fun k hk e => by have := hM88 k hk; omega)
         have d88_9 : ∀ k, M88 k → k ≠ b_9 := (fun k hk e => by have := hM88 k hk; omega)
         refine RD.backW rfl (a88.mono fun k _ e => .inr (Nat.le_trans szD84 (o84.ge k e).1)) ?_;refine RD.tS 7 rfl (fun w' s' => .assign rfl) ?_;refine RD.oneS 8 rfl ?_;refine RL.stS sh31 rfl rfl rfl hb_5 (fun w65 z65 hb_5 a65 => ?_);have S := S.upd a65 ge_5;have hb_3 := hb_3.upd a65 n_3__5;have hb_9 := hb_9.upd a65 n_5__9.symm;have szD := Nat.le_trans szD a65.size;have hF88 := hF88.updD a65 d88_5
         have hb_5 : Has w65 b_5 ([.int .i64 0, .int .i64 0, .int .i64 0]) _ := hb_5.now (by kernel_rfl)
         refine RD.backW rfl (a65.mono fun k _ e => e ▸ (.inl (rfl))) ?_;refine RD.done (by kernel_rfl) (RC.back ?_);refine RC.done (rs := [.tmp 4, .cell 5 31]) (vs := [_, _]) rfl rfl ⟨rfl, ⟨_, rfl, .inr ⟨[.int .i64 0, .int .i64 0, .int .i64 0], sh31, hb_5.row, rfl⟩⟩, trivial⟩ ?_
         have he : pairsM l o = (l.take n' ++ ⟨o.a, o.b⟩ :: l.drop n', ⟨0, 0, 0⟩) := (by rw [hdef, if_neg (by omega), if_pos k44, if_neg (fun h => by omega), put_no hs hn (by rw [← his]; exact is0), is0]; rfl)
         rw [he]
         exact ⟨S, _, _, M88, by rw [show (l.take n' ++ (⟨o.a, o.b⟩ : It) :: l.drop n').length = l.length + 1 from by rw [List.length_append, List.length_cons, List.length_take, List.length_drop]; omega]; rfl, by rw [show (l.take n' ++ (⟨o.a, o.b⟩ : It) :: l.drop n').length = l.length + 1 from by rw [List.length_append, List.length_cons, List.length_take, List.length_drop]; omega]; exact hc88, hF88, fun k hk => .inr (Nat.le_trans szS (hM88 k hk))⟩
        ·
         refine RL.buildSlice1 sl22 _ ze47 rfl rfl rfl rfl rfl rfl rfl (fun b_87 w_87 e_87 z_87 hb_87 s_87 => ?_)
         have fr_b_87 : w53.heap.size ≤ b_87 := by rw [e_87]; exact szD
         have S := S.trans s_87;have hb_3 := hb_3.sub s_87;have hb_5 := hb_5.sub s_87;have hb_9 := hb_9.sub s_87;have szD := Nat.le_trans szD s_87.size;refine RD.back s_87.agr ?_;refine RD.oneS 1 rfl ?_;refine RL.call rfl ok48 (c_clone l a c _ rfl w_87 (hl.sub S) (by omega)) rfl rfl ?_;rintro _ w66 ⟨a84, c84, rfl, o84, s67⟩
         have lt3 := hb_3.lt
         have lt5 := hb_5.lt
         have lt9 := hb_9.lt
         have szS := S.size;have szD84 := szD;have szB84 := s67.size;have S := S.trans s67;have hb_3 := hb_3.sub s67;have hb_5 := hb_5.sub s67;have hb_9 := hb_9.sub s67;have szD := Nat.le_trans szD s67.size;have hb_87 := hb_87.sub s67
         have d84_3 : ∀ k, ob (.slice a84 l.length c84) = some k → k ≠ b_3 := (fun k hk e => by have := (o84.ge k hk).1; omega)
         have d84_5 : ∀ k, ob (.slice a84 l.length c84) = some k → k ≠ b_5 := (fun k hk e => by have := (o84.ge k hk).1; omega)
         have d84_9 : ∀ k, ob (.slice a84 l.length c84) = some k → k ≠ b_9 := (fun k hk e => by have := (o84.ge k hk).1; omega)
         have o84w := o84.whole
         refine RD.back s67.agr ?_;refine RD.oneS 5 rfl ?_;refine RL.call rfl ok50 (c_insert l ⟨o.a, o.b⟩ _ a84 c84 b_87 n' w66 o84 szB84 (by rcases o84w with ⟨q, _⟩ | ⟨g, ex, q, _, _, _, q2⟩; injection q with _ _ q; omega; injection q with _ _ q; rw [q]; exact Nat.le_trans q2 (by decide)) (by omega) g3 hb_87 (by first | exact d_o84_b_87 | exact (fun k hk e => by have := (o84.ge k hk).1; omega))) rfl rfl ?_;rintro _ w68 ⟨a88', c88', M88, rfl, hc88, hF88, hM88, a88⟩
         have S := S.agrN a88 (fun k e => Nat.le_trans szS (o84.ge k e).1)
         have hb_3 := hb_3.step a88 (fun e => d84_3 _ e rfl);have hb_5 := hb_5.step a88 (fun e => d84_5 _ e rfl);have hb_9 := hb_9.step a88 (fun e => d84_9 _ e rfl);have szD := Nat.le_trans szD a88.size
         have d88_5 : ∀ k, M88 k → k ≠ b_5 := (fun k hk e => by have := hM88 k hk; omega)
         have d88_3 : ∀ k, M88 k → k ≠ b_3 := (fun k hk e => by have := hM88 k hk; omega)
         have d88_9 : ∀ k, M88 k → k ≠ b_9 := (fun k hk e => by have := hM88 k hk; omega)
         refine RD.backW rfl (a88.mono fun k _ e => .inr (Nat.le_trans szD84 (o84.ge k e).1)) ?_;refine RD.tS 7 rfl (fun w' s' => .assign rfl) ?_;refine RD.oneS 8 rfl ?_;refine RL.stS sh31 rfl rfl rfl hb_5 (fun w70 z70 hb_5 a70 => ?_);have S := S.upd a70 ge_5;have hb_3 := hb_3.upd a70 n_3__5;have hb_9 := hb_9.upd a70 n_5__9.symm;have szD := Nat.le_trans szD a70.size;have hF88 := hF88.updD a70 d88_5
         have hb_5 : Has w70 b_5 ([.int .i64 0, .int .i64 0, .int .i64 0]) _ := hb_5.now (by kernel_rfl)
         refine RD.backW rfl (a70.mono fun k _ e => e ▸ (.inl (rfl))) ?_;refine RD.done (by kernel_rfl) (RC.back ?_);refine RC.done (rs := [.tmp 4, .cell 5 31]) (vs := [_, _]) rfl rfl ⟨rfl, ⟨_, rfl, .inr ⟨[.int .i64 0, .int .i64 0, .int .i64 0], sh31, hb_5.row, rfl⟩⟩, trivial⟩ ?_
         have he : pairsM l o = (l.take n' ++ ⟨o.a, o.b⟩ :: l.drop n', ⟨0, 0, 0⟩) := (by rw [hdef, if_neg (by omega), if_pos k44, if_neg (fun h => by omega), put_no hs hn (by rw [← his]; exact is0), is0]; rfl)
         rw [he]
         exact ⟨S, _, _, M88, by rw [show (l.take n' ++ (⟨o.a, o.b⟩ : It) :: l.drop n').length = l.length + 1 from by rw [List.length_append, List.length_cons, List.length_take, List.length_drop]; omega]; rfl, by rw [show (l.take n' ++ (⟨o.a, o.b⟩ : It) :: l.drop n').length = l.length + 1 from by rw [List.length_append, List.length_cons, List.length_take, List.length_drop]; omega]; exact hc88, hF88, fun k hk => .inr (Nat.le_trans szS (hM88 k hk))⟩
      ·
       have g73 : ¬ o.box = 2 := h52
       refine RL.offs 5 rfl ?_;refine RL.eS (.pick_f rfl rfl) ?_;refine RL.eS (.pick_f rfl rfl) ?_;refine RL.nil (RC.back ?_);refine RC.cond_f rfl ?_;refine RC.skip (RC.back (RC.seq ?_));refine RC.drawD (fun k => k = b_5) [5, 8] w39.heap.size 9 rfl rfl mxo (fun w71 s72 => ?_)
       have hNN : ∀ k, ((k = b_5) ∨ w39.heap.size ≤ k) → w.heap.size ≤ k := fun k e => e.elim (fun e => e ▸ ge_5) (fun e => Nat.le_trans S.size e)
       have hN0 : ∀ k, w39.heap.size ≤ k → w.heap.size ≤ k := fun k e => Nat.le_trans S.size e
       have ltD_b_9 := hb_9.lt;have szD := Nat.le_refl w39.heap.size;have S := S.trans s72;have hb_3 := hb_3.sub s72;have hb_5 := hb_5.sub s72;have hb_9 := hb_9.sub s72;have szD := Nat.le_trans szD s72.size;refine RD.tS 0 rfl (fun w' s' => .move rfl) ?_;refine RD.tS 2 rfl (fun w' s' => .move rfl) ?_;refine RD.tS 3 rfl (fun w' s' => .loadR ([.int .i64 o.a, .int .i64 o.b]) sh47 rfl (hb_9.step s' (fun e => e.elim (fun e => n_5__9.symm e) (fun e => Nat.not_le.2 ltD_b_9 e))).row rfl) ?_;refine RD.tS 6 rfl (fun w' s' => .buildS ze31 pl31 rfl rfl) ?_;refine RD.all [1, 4] (by kernel_rfl) rfl (RDs.cons rfl ?_ (RDs.cons rfl ?_ (RDs.nil)))
       ·
        refine RL.call rfl ok48 (c_clone l a c _ rfl w71 (hl.sub S) (by omega)) rfl rfl ?_;rintro _ w73 ⟨a84, c84, rfl, o84, s74⟩
        have lt3 := hb_3.lt
        have lt5 := hb_5.lt
        have lt9 := hb_9.lt
        have szS := S.size;have szD84 := szD;have szB84 := s74.size;have S := S.trans s74;have hb_3 := hb_3.sub s74;have hb_5 := hb_5.sub s74;have hb_9 := hb_9.sub s74;have szD := Nat.le_trans szD s74.size
        have d84_3 : ∀ k, ob (.slice a84 l.length c84) = some k → k ≠ b_3 := (fun k hk e => by have := (o84.ge k hk).1; omega)
        have d84_5 : ∀ k, ob (.slice a84 l.length c84) = some k → k ≠ b_5 := (fun k hk e => by have := (o84.ge k hk).1; omega)
        have d84_9 : ∀ k, ob (.slice a84 l.length c84) = some k → k ≠ b_9 := (fun k hk e => by have := (o84.ge k hk).1; omega)
        have o84w := o84.whole
        refine RD.back s74.agr ?_;refine RD.oneS 4 rfl ?_;refine RL.buildSlice1 sl22 _ ze47 rfl rfl rfl rfl rfl rfl rfl (fun b_87 w_87 e_87 z_87 hb_87 s_87 => ?_)
        have fr_b_87 : w39.heap.size ≤ b_87 := by rw [e_87]; exact szD
        have d_o84_b_87 := o84.neNew e_87;have S := S.trans s_87;have hb_3 := hb_3.sub s_87;have hb_5 := hb_5.sub s_87;have hb_9 := hb_9.sub s_87;have szD := Nat.le_trans szD s_87.size;have szB84 := Nat.le_trans szB84 s_87.size;have o84 := o84.sub s_87;refine RD.back s_87.agr ?_;refine RD.oneS 5 rfl ?_;refine RL.call rfl ok50 (c_insert l ⟨o.a, o.b⟩ _ a84 c84 b_87 n' w_87 o84 szB84 (by rcases o84w with ⟨q, _⟩ | ⟨g, ex, q, _, _, _, q2⟩; injection q with _ _ q; omega; injection q with _ _ q; rw [q]; exact Nat.le_trans q2 (by decide)) (by omega) g3 hb_87 (by first | exact d_o84_b_87 | exact (fun k hk e => by have := (o84.ge k hk).1; omega))) rfl rfl ?_;rintro _ w75 ⟨a88', c88', M88, rfl, hc88, hF88, hM88, a88⟩
        have S := S.agrN a88 (fun k e => Nat.le_trans szS (o84.ge k e).1)
        have hb_3 := hb_3.step a88 (fun e => d84_3 _ e rfl);have hb_5 := hb_5.step a88 (fun e => d84_5 _ e rfl);have hb_9 := hb_9.step a88 (fun e => d84_9 _ e rfl);have szD := Nat.le_trans szD a88.size
        have d88_5 : ∀ k, M88 k → k ≠ b_5 := (fun k hk e => by have := hM88 k hk; omega)
        have d88_3 : ∀ k, M88 k → k ≠ b_3 := (fun k hk e => by have := hM88 k hk; omega)
        have d88_9 : ∀ k, M88 k → k ≠ b_9 := (fun k hk e => by have := hM88 k hk; omega)
        refine RD.backW rfl (a88.mono fun k _ e => .inr (Nat.le_trans szD84 (o84.ge k e).1)) ?_;refine RD.tS 7 rfl (fun w' s' => .assign rfl) ?_;refine RD.oneS 8 rfl ?_;refine RL.stS sh31 rfl rfl rfl hb_5 (fun w77 z77 hb_5 a77 => ?_);have S := S.upd a77 ge_5;have hb_3 := hb_3.upd a77 n_3__5;have hb_9 := hb_9.upd a77 n_5__9.symm;have szD := Nat.le_trans szD a77.size;have hF88 := hF88.updD a77 d88_5
        have hb_5 : Has w77 b_5 ([.int .i64 0, .int .i64 0, .int .i64 0]) _ := hb_5.now (by kernel_rfl)
        refine RD.backW rfl (a77.mono fun k _ e => e ▸ (.inl (rfl))) ?_;refine RD.done (by kernel_rfl) (RC.back ?_);refine RC.done (rs := [.tmp 4, .cell 5 31]) (vs := [_, _]) rfl rfl ⟨rfl, ⟨_, rfl, .inr ⟨[.int .i64 0, .int .i64 0, .int .i64 0], sh31, hb_5.row, rfl⟩⟩, trivial⟩ ?_
        have he : pairsM l o = (l.take n' ++ ⟨o.a, o.b⟩ :: l.drop n', ⟨0, 0, 0⟩) := (by rw [hdef, if_neg (by omega), if_pos k44, if_neg (fun h => by omega), put_no hs hn (by rw [← his]; exact is0), is0]; rfl)
        rw [he]
        exact ⟨S, _, _, M88, by rw [show (l.take n' ++ (⟨o.a, o.b⟩ : It) :: l.drop n').length = l.length + 1 from by rw [List.length_append, List.length_cons, List.length_take, List.length_drop]; omega]; rfl, by rw [show (l.take n' ++ (⟨o.a, o.b⟩ : It) :: l.drop n').length = l.length + 1 from by rw [List.length_append, List.length_cons, List.length_take, List.length_drop]; omega]; exact hc88, hF88, fun k hk => .inr (Nat.le_trans szS (hM88 k hk))⟩
       ·
        refine RL.buildSlice1 sl22 _ ze47 rfl rfl rfl rfl rfl rfl rfl (fun b_87 w_87 e_87 z_87 hb_87 s_87 => ?_)
        have fr_b_87 : w39.heap.size ≤ b_87 := by rw [e_87]; exact szD
        have S := S.trans s_87;have hb_3 := hb_3.sub s_87;have hb_5 := hb_5.sub s_87;have hb_9 := hb_9.sub s_87;have szD := Nat.le_trans szD s_87.size;refine RD.back s_87.agr ?_;refine RD.oneS 1 rfl ?_;refine RL.call rfl ok48 (c_clone l a c _ rfl w_87 (hl.sub S) (by omega)) rfl rfl ?_;rintro _ w78 ⟨a84, c84, rfl, o84, s79⟩
        have lt3 := hb_3.lt
        have lt5 := hb_5.lt
        have lt9 := hb_9.lt
        have szS := S.size;have szD84 := szD;have szB84 := s79.size;have S := S.trans s79;have hb_5 := hb_5.sub s79;have hb_87 := hb_87.sub s79
        have d84_3 : ∀ k, ob (.slice a84 l.length c84) = some k → k ≠ b_3 := (fun k hk e => by have := (o84.ge k hk).1; omega)
        have d84_5 : ∀ k, ob (.slice a84 l.length c84) = some k → k ≠ b_5 := (fun k hk e => by have := (o84.ge k hk).1; omega)
        have d84_9 : ∀ k, ob (.slice a84 l.length c84) = some k → k ≠ b_9 := (fun k hk e => by have := (o84.ge k hk).1; omega)
        have o84w := o84.whole
        refine RD.back s79.agr ?_;refine RD.oneS 5 rfl ?_;refine RL.call rfl ok50 (c_insert l ⟨o.a, o.b⟩ _ a84 c84 b_87 n' w78 o84 szB84 (by rcases o84w with ⟨q, _⟩ | ⟨g, ex, q, _, _, _, q2⟩; injection q with _ _ q; omega; injection q with _ _ q; rw [q]; exact Nat.le_trans q2 (by decide)) (by omega) g3 hb_87 (by first | exact d_o84_b_87 | exact (fun k hk e => by have := (o84.ge k hk).1; omega))) rfl rfl ?_;rintro _ w80 ⟨a88', c88', M88, rfl, hc88, hF88, hM88, a88⟩
        have S := S.agrN a88 (fun k e => Nat.le_trans szS (o84.ge k e).1)
        have hb_5 := hb_5.step a88 (fun e => d84_5 _ e rfl)
        have d88_5 : ∀ k, M88 k → k ≠ b_5 := (fun k hk e => by have := hM88 k hk; omega)
        have d88_3 : ∀ k, M88 k → k ≠ b_3 := (fun k hk e => by have := hM88 k hk; omega)
        have d88_9 : ∀ k, M88 k → k ≠ b_9 := (fun k hk e => by have := hM88 k hk; omega)
        refine RD.backW rfl (a88.mono fun k _ e => .inr (Nat.le_trans szD84 (o84.ge k e).1)) ?_;refine RD.tS 7 rfl (fun w' s' => .assign rfl) ?_;refine RD.oneS 8 rfl ?_;refine RL.stS sh31 rfl rfl rfl hb_5 (fun w82 z82 hb_5 a82 => ?_);have S := S.upd a82 ge_5;have hF88 := hF88.updD a82 d88_5
        have hb_5 : Has w82 b_5 ([.int .i64 0, .int .i64 0, .int .i64 0]) _ := hb_5.now (by kernel_rfl)
        refine RD.backW rfl (a82.mono fun k _ e => e ▸ (.inl (rfl))) ?_;refine RD.done (by kernel_rfl) (RC.back ?_);refine RC.done (rs := [.tmp 4, .cell 5 31]) (vs := [_, _]) rfl rfl ⟨rfl, ⟨_, rfl, .inr ⟨[.int .i64 0, .int .i64 0, .int .i64 0], sh31, hb_5.row, rfl⟩⟩, trivial⟩ ?_
        have he : pairsM l o = (l.take n' ++ ⟨o.a, o.b⟩ :: l.drop n', ⟨0, 0, 0⟩) := (by rw [hdef, if_neg (by omega), if_pos k44, if_neg (fun h => by omega), put_no hs hn (by rw [← his]; exact is0), is0]; rfl)
        rw [he]
        exact ⟨S, _, _, M88, by rw [show (l.take n' ++ (⟨o.a, o.b⟩ : It) :: l.drop n').length = l.length + 1 from by rw [List.length_append, List.length_cons, List.length_take, List.length_drop]; omega]; rfl, by rw [show (l.take n' ++ (⟨o.a, o.b⟩ : It) :: l.drop n').length = l.length + 1 from by rw [List.length_append, List.length_cons, List.length_take, List.length_drop]; omega]; exact hc88, hF88, fun k hk => .inr (Nat.le_trans szS (hM88 k hk))⟩
   ·
    have n44 := h38
    refine RC.seq (RC.region rfl ?_);refine RL.eS (.bin rfl rfl rfl) ?_;refine RL.asS rfl ?_;refine RL.nil (RC.back ?_);refine RC.cond_dec rfl (fun h83 => ?_) (fun h83 => ?_)
    ·
     have k90 := h83
     refine RC.cutx (α := Nat) (fun y_ => [(0, .slice a l.length c), (3, .pointer (some ⟨b_3, 0, none⟩)), (5, .pointer (some ⟨b_5, 0, none⟩)), (6, .int .i64 (y_ : Int))]) (fun y_ w84 => (y_ = (if is then n' + 1 else n') ∧ y_ ≤ l.length) ∧ Has w84 b_5 [.int .i64 0, .int .i64 0, .int .i64 0] 31 ∧ Sub w w84) ?_ (fun y_ w84 hJ => ?_)
     ·
      refine RC.seq (RC.region rfl ?_);refine RL.mvS rfl ?_;refine RL.nil (RC.back ?_);refine RC.cond rfl (fun h85 => ?_) (fun h85 => ?_)
      ·
       have is1 : is = true := h85
       obtain ⟨x, hx, hxk⟩ := g0.1 is1
       have hnl := lt_of_get hx
       refine RC.region rfl ?_;refine RL.mvS rfl ?_;refine RL.eS (.as (.bin rfl rfl rfl) (wi64 (y := ((n' + 1 : Nat) : Int)) (by omega) (by omega))) ?_;refine RL.asS rfl ?_
       exact RL.nil (fun a ka => ⟨n' + 1, ⟨⟨by rw [is1]; rfl, by omega⟩, hb_5, S⟩, ka.keep (keep_of (by repeat (first | exact trivial | refine And.intro rfl ?_)))⟩)
      ·
       have is0 : is = false := h85
       exact RC.skip (fun a ka => ⟨n', ⟨⟨by rw [is0]; rfl, g3⟩, hb_5, S⟩, ka.keep (keep_of (by repeat (first | exact trivial | refine And.intro rfl ?_)))⟩)
     obtain ⟨⟨hyk, hyl⟩, hb_5, S⟩ := hJ
     refine RC.seq (RC.seq (RC.region rfl ?_));refine RL.mvS rfl ?_;refine RL.eS (.bin rfl rfl rfl) ?_;refine RL.nil (RC.back ?_);refine RC.cond_dec rfl (fun h86 => ?_) (fun h86 => ?_)
     ·
      have g96 : y_ = 0 := (by omega)
      refine RC.seq (RC.region rfl ?_);refine RL.mvS rfl ?_;refine RL.call rfl ok46 (c_none w84) rfl rfl ?_;rintro _ w87 ⟨rfl, s88⟩;have S := S.trans s88;have hb_5 := hb_5.sub s88;refine RL.asS rfl ?_;refine RL.stS sh31 rfl rfl rfl hb_5 (fun w89 z89 hb_5 a89 => ?_);have S := S.upd a89 ge_5
      have hb_5 : Has w89 b_5 ([.int .i64 3, .int .i64 0, .int .i64 0]) _ := hb_5.now (by kernel_rfl)
      refine RL.nil (RC.back ?_);refine RC.done (rs := [.tmp 4, .cell 5 31]) (vs := [_, _]) rfl rfl ⟨rfl, ⟨_, rfl, .inr ⟨[.int .i64 3, .int .i64 0, .int .i64 0], sh31, hb_5.row, rfl⟩⟩, trivial⟩ ?_
      have he : pairsM l o = (l, ⟨3, 0, 0⟩) := (by rw [hdef, if_neg (by omega), if_neg (by omega), if_pos k90, if_pos (by rw [← hyk]; exact g96)])
      rw [he]
      exact ⟨S, _, _, M, rfl, hc, hF.sub S, Up.refl _ _⟩
     ·
      have g96 : 0 < y_ := (by omega)
      obtain ⟨y, hy⟩ := getSome (l := l) (i := y_ - 1) (by omega)
      have hva := valAt_get hy
      refine RC.skip (RC.back (RC.seq ?_));refine RC.drawD (fun k => k = b_5) [15] w84.heap.size 16 rfl rfl mxo (fun w90 s91 => ?_)
      have hNN : ∀ k, ((k = b_5) ∨ w84.heap.size ≤ k) → w.heap.size ≤ k := fun k e => e.elim (fun e => e ▸ ge_5) (fun e => Nat.le_trans S.size e)
      have hN0 : ∀ k, w84.heap.size ≤ k → w.heap.size ≤ k := fun k e => Nat.le_trans S.size e
      have S := S.trans s91;have hb_5 := hb_5.sub s91;refine RD.tS 0 rfl (fun w' s' => .move rfl) ?_;refine RD.tS 1 rfl (fun w' s' => .move rfl) ?_;refine RD.tS 2 rfl (fun w' s' => .move rfl) ?_;refine RD.tS 3 rfl (fun w' s' => .as (.bin rfl rfl rfl) (wi64 (y := ((y_ - 1 : Nat) : Int)) (by omega) (by omega))) ?_;refine RD.tS 4 rfl (fun w' s' => .indexS sl22 rfl rfl (by omega) (hl.is (i := 0) (by simp only [List.length_map, List.length_cons, List.length_nil]; omega))) ?_;refine RD.tS 5 rfl (fun w' s' => .fieldA fo47_0 rfl) ?_;refine RD.tS 6 rfl (fun w' s' => .load1 sh2 rfl ((hl.sub (S.agrN s' hNN)).cell (enc := It.cells) (j := 0) hy rfl)) ?_;refine RD.tS 7 rfl (fun w' s' => .move rfl) ?_;refine RD.tS 8 rfl (fun w' s' => .move rfl) ?_;refine RD.tS 9 rfl (fun w' s' => .as (.bin rfl rfl rfl) (wi64 (y := ((y_ - 1 : Nat) : Int)) (by omega) (by omega))) ?_;refine RD.tS 10 rfl (fun w' s' => .indexS sl22 rfl rfl (by omega) (hl.is (i := 0) (by simp only [List.length_map, List.length_cons, List.length_nil]; omega))) ?_;refine RD.tS 11 rfl (fun w' s' => .fieldA fo47_1 rfl) ?_;refine RD.tS 12 rfl (fun w' s' => .load1 sh2 rfl ((hl.sub (S.agrN s' hNN)).cell (enc := It.cells) (j := 1) hy rfl)) ?_;refine RD.tS 13 rfl (fun w' s' => .buildS ze31 pl31 rfl rfl) ?_;refine RD.tS 14 rfl (fun w' s' => .assign rfl) ?_;refine RD.oneS 15 rfl ?_;refine RL.stS sh31 rfl rfl rfl hb_5 (fun w92 z92 hb_5 a92 => ?_);have S := S.upd a92 ge_5
      have hb_5 : Has w92 b_5 ([.int .i64 0, .int .i64 y.k, .int .i64 y.v]) _ := hb_5.now (by kernel_rfl)
      refine RD.backW rfl (a92.mono fun k _ e => e ▸ (.inl (rfl))) ?_;refine RD.done (by kernel_rfl) (RC.back ?_);refine RC.done (rs := [.tmp 4, .cell 5 31]) (vs := [_, _]) rfl rfl ⟨rfl, ⟨_, rfl, .inr ⟨[.int .i64 0, .int .i64 y.k, .int .i64 y.v], sh31, hb_5.row, rfl⟩⟩, trivial⟩ ?_
      have he : pairsM l o = (l, ⟨0, y.k, y.v⟩) := (by rw [hdef, if_neg (by omega), if_neg (by omega), if_pos k90, if_neg (by rw [← hyk]; omega), ← hyk, hva])
      rw [he]
      exact ⟨S, _, _, M, rfl, hc, hF.sub S, Up.refl _ _⟩
    ·
     have n90 := h83
     refine RC.seq (RC.region rfl ?_);refine RL.eS (.bin rfl rfl rfl) ?_;refine RL.asS rfl ?_;refine RL.nil (RC.back ?_);refine RC.cond_dec rfl (fun h93 => ?_) (fun h93 => ?_)
     ·
      have k113 := h93
      refine RC.seq (RC.region rfl ?_);refine RL.mvS rfl ?_;refine RL.mvS rfl ?_;refine RL.eS (.len sl22 rfl) ?_;refine RL.eS (.buildS ze31 pl31 rfl rfl) ?_;refine RL.asS rfl ?_;refine RL.stS sh31 rfl rfl rfl hb_5 (fun w94 z94 hb_5 a94 => ?_);have S := S.upd a94 ge_5
      have hb_5 : Has w94 b_5 ([.int .i64 0, .int .i64 (l.length : Int), .int .i64 0]) _ := hb_5.now (by kernel_rfl)
      refine RL.nil (RC.back ?_);refine RC.done (rs := [.tmp 4, .cell 5 31]) (vs := [_, _]) rfl rfl ⟨rfl, ⟨_, rfl, .inr ⟨[.int .i64 0, .int .i64 (l.length : Int), .int .i64 0], sh31, hb_5.row, rfl⟩⟩, trivial⟩ ?_
      have he : pairsM l o = (l, ⟨0, (l.length : Int), 0⟩) := (by rw [hdef, if_pos k113])
      rw [he]
      exact ⟨S, _, _, M, rfl, hc, hF.sub S, Up.refl _ _⟩
     ·
      have n113 := h93
      refine RC.skip (RC.back (RC.seq (RC.region rfl ?_)));refine RL.mvS rfl ?_;refine RL.mvS rfl ?_;refine RL.eS (.buildS ze31 pl31 rfl rfl) ?_;refine RL.asS rfl ?_;refine RL.stS sh31 rfl rfl rfl hb_5 (fun w95 z95 hb_5 a95 => ?_);have S := S.upd a95 ge_5
      have hb_5 : Has w95 b_5 ([.int .i64 0, .int .i64 (n' : Int), .int .i64 0]) _ := hb_5.now (by kernel_rfl)
      refine RL.nil (RC.back ?_);refine RC.done (rs := [.tmp 4, .cell 5 31]) (vs := [_, _]) rfl rfl ⟨rfl, ⟨_, rfl, .inr ⟨[.int .i64 0, .int .i64 (n' : Int), .int .i64 0], sh31, hb_5.row, rfl⟩⟩, trivial⟩ ?_
      have he : pairsM l o = (l, ⟨0, (n' : Int), 0⟩) := (by rw [hdef, if_neg n113, if_neg n44, if_neg n90, if_pos (by omega)])
      rw [he]
      exact ⟨S, _, _, M, rfl, hc, hF.sub S, Up.refl _ _⟩
def rowM (l : List Int) (o : OpT) : List Int × ResT :=
  if o.kind = 6 then (l, ⟨0, l.length, 0⟩)
  else if o.kind = 2 ∨ o.kind = 4 then
    if 200 ≤ l.length then (l, ⟨5, 0, 0⟩) else (if o.kind = 2 then l ++ [o.a] else o.a :: l, ⟨0, 0, 0⟩)
  else if o.kind = 1 then
    if o.a < 0 ∨ (l.length : Int) ≤ o.a then (l, ⟨3, 0, 0⟩) else (l, ⟨0, l.getD o.a.toNat 0, 0⟩)
  else if l.length = 0 then (l, ⟨3, 0, 0⟩)
  else if o.kind = 3 then (l.take (l.length - 1), ⟨0, l.getD (l.length - 1) 0, 0⟩)
  else (l.drop 1, ⟨0, l.getD 0 0, 0⟩)
theorem getDm_of {l : List Int} {n : Nat} {x : Int} (h : l[n]? = some x) : l.getD n 0 = x := by rw [List.getD_eq_getElem?_getD, h]; rfl
def AnsV (M : Nat → Prop) (w w' : World) (q : List Int × ResT) (u : Value) : Prop := Sub w w' ∧ ∃ a' c' M', u = .tuple #[.slice a' q.1.length c', .agg q.2.cells.toArray] ∧ q.1.length ≤ c' ∧ Ft M' (fun u => Sl u a' 1 (q.1.map fun x => [i6 x])) w' ∧ Up M w M'
theorem c_clip (a : Option Addr) (n c : Nat) (hn : n ≤ c) (w : World) : FC Try.prog 51 [.slice a n c] w (Val (.slice a n n) w) := by
 refine FC.intro Try.func51 rfl Try.ntmps51 rfl ?_
 have S := Sub.refl w
 refine RC.seq (RC.region rfl ?_);refine RL.asS rfl ?_;refine RL.nil (RC.back (RC.seq (RC.region rfl ?_)));refine RL.mvS rfl ?_;refine RL.mvS rfl ?_;refine RL.eS (.len sl23 rfl) ?_;refine RL.mvS rfl ?_;refine RL.eS (.len sl23 rfl) ?_;refine RL.eS (.sliceHM sl23 rfl rfl rfl (by omega)) ?_;refine RL.asS rfl ?_;refine RL.nil (RC.back ?_);refine RC.d1 2 rfl rfl rfl ?_
 exact ⟨rfl, S⟩
theorem c_row (l : List Int) (a : Option Addr) (c m : Nat) (hm : m = l.length) (hl200 : l.length ≤ 200) (hc : l.length ≤ c) (o : OpT) (hok : okP o) (w : World) (M : Nat → Prop) (hF : Ft M (fun u => Sl u a 1 (l.map fun x => [i6 x])) w) :
  FC Try.prog 38 [.slice a m c, .agg o.cells.toArray] w (fun u w' => AnsV M w w' (rowM l o) u) := by
 subst hm
 have hl := hF.now
 have hk := hok.1
 have hkk : 1 ≤ o.kind ∧ o.kind ≤ 6 := ⟨hk.2.2.1, hk.2.2.2.1⟩
 refine FC.intro Try.func38 rfl Try.ntmps38 rfl ?_
 have S := Sub.refl w
 refine RC.seq (RC.region rfl ?_);refine RL.box rfl rfl rfl (fun b_3 w_3 e_3 z_3 hb_3 s_3 => ?_);have S := S.trans s_3
 have hb_3 : Has w_3 b_3 ([.int .i64 o.box, .int .i64 o.kind, .int .i64 o.a, .int .i64 o.b]) _ := hb_3
 refine RL.asS rfl ?_;refine RL.alloc ze31 rfl rfl (fun b_5 w_5 e_5 z_5 hb_5 s_5 => ?_);have ge_5 := S.le e_5;have n_3__5 := hb_3.ne e_5;have S := S.trans s_5;have hb_3 := hb_3.sub s_5;refine RL.nil (RC.back (RC.seq (RC.region rfl ?_)));refine RL.mvS rfl ?_;refine RL.eS (.len sl23 rfl) ?_;refine RL.asS rfl ?_;refine RL.nil (RC.back (RC.seq (RC.seq (RC.region rfl ?_))));refine RL.eS (.field0 fo27_1 rfl) ?_;refine RL.eS (.load1 sh3 rfl (hb_3.cell rfl)) ?_;refine RL.nil (RC.back (RC.block (RC.seq (RC.region rfl ?_))));refine RL.eS (.bin rfl rfl rfl) ?_;refine RL.asS rfl ?_;refine RL.nil (RC.back ?_);refine RC.cond_dec rfl (fun h1 => ?_) (fun h1 => ?_)
 ·
  have k11 := h1
  refine RC.seq (RC.region rfl ?_);refine RL.mvS rfl ?_;refine RL.mvS rfl ?_;refine RL.eS (.buildS ze31 pl31 rfl rfl) ?_;refine RL.asS rfl ?_;refine RL.stS sh31 rfl rfl rfl hb_5 (fun w2 z2 hb_5 a2 => ?_);have S := S.upd a2 ge_5;have hb_3 := hb_3.upd a2 n_3__5
  have hb_5 : Has w2 b_5 ([.int .i64 0, .int .i64 (l.length : Int), .int .i64 0]) _ := hb_5.now (by kernel_rfl)
  refine RL.nil (RC.back ?_);refine RC.done (rs := [.tmp 4, .cell 5 31]) (vs := [_, _]) rfl rfl ⟨rfl, ⟨_, rfl, .inr ⟨[.int .i64 0, .int .i64 (l.length : Int), .int .i64 0], sh31, hb_5.row, rfl⟩⟩, trivial⟩ ?_
  have he : rowM l o = (l, ⟨0, l.length, 0⟩) := (by rw [rowM, if_pos k11])
  rw [he]
  exact ⟨S, _, _, M, rfl, hc, hF.sub S, Up.refl _ _⟩
 ·
  have n11 := h1
  refine RC.seq (RC.seq (RC.region rfl ?_));refine RL.eS (.bin rfl rfl rfl) ?_;refine RL.asS rfl ?_;refine RL.nil (RC.back ?_);refine RC.cond_dec rfl (fun h3 => ?_) (fun h3 => ?_)
  ·
   have k16 := h3
   refine RC.skip (RC.back ?_);refine RC.cond_dec rfl (fun h4 => ?_) (fun h4 => absurd h3 h4);refine RC.seq (RC.seq (RC.region rfl ?_));refine RL.mvS rfl ?_;refine RL.eS (.bin rfl rfl rfl) ?_;refine RL.nil (RC.back ?_);refine RC.cond_dec rfl (fun h5 => ?_) (fun h5 => ?_)
   ·
    have k20 := h5
    refine RC.seq (RC.region rfl ?_);refine RL.mvS rfl ?_;refine RL.call rfl ok49 (c_full w_5) rfl rfl ?_;rintro _ w6 ⟨rfl, s7⟩;have S := S.trans s7;have hb_3 := hb_3.sub s7;have hb_5 := hb_5.sub s7;refine RL.asS rfl ?_;refine RL.stS sh31 rfl rfl rfl hb_5 (fun w8 z8 hb_5 a8 => ?_);have S := S.upd a8 ge_5;have hb_3 := hb_3.upd a8 n_3__5
    have hb_5 : Has w8 b_5 ([.int .i64 5, .int .i64 0, .int .i64 0]) _ := hb_5.now (by kernel_rfl)
    refine RL.nil (RC.back ?_);refine RC.done (rs := [.tmp 4, .cell 5 31]) (vs := [_, _]) rfl rfl ⟨rfl, ⟨_, rfl, .inr ⟨[.int .i64 5, .int .i64 0, .int .i64 0], sh31, hb_5.row, rfl⟩⟩, trivial⟩ ?_
    have he : rowM l o = (l, ⟨5, 0, 0⟩) := (by rw [rowM, if_neg n11, if_pos (by omega), if_pos (by omega)])
    rw [he]
    exact ⟨S, _, _, M, rfl, hc, hF.sub S, Up.refl _ _⟩
   ·
    have n20 := h5
    refine RC.skip (RC.back (RC.seq (RC.seq (RC.region rfl ?_))));refine RL.eS (.field0 fo27_1 rfl) ?_;refine RL.eS (.load1 sh3 rfl (hb_3.cell rfl)) ?_;refine RL.eS (.bin rfl rfl rfl) ?_;refine RL.nil (RC.back ?_);refine RC.cond_dec rfl (fun h9 => ?_) (fun h9 => ?_)
    ·
     have k25 := h9
     refine RC.seq ?_;refine RC.drawD (fun k => k = b_5) [5, 8] w_5.heap.size 9 rfl rfl mxo (fun w10 s11 => ?_)
     have hNN : ∀ k, ((k = b_5) ∨ w_5.heap.size ≤ k) → w.heap.size ≤ k := fun k e => e.elim (fun e => e ▸ ge_5) (fun e => Nat.le_trans S.size e)
     have ent_S := S.size
     have hN0 : ∀ k, w_5.heap.size ≤ k → w.heap.size ≤ k := fun k e => Nat.le_trans S.size e
     have ltD_b_3 := hb_3.lt;have ltD_b_5 := hb_5.lt;have szD := Nat.le_refl w_5.heap.size;have S := S.trans s11;have hb_3 := hb_3.sub s11;have hb_5 := hb_5.sub s11;have szD := Nat.le_trans szD s11.size;refine RD.tS 0 rfl (fun w' s' => .move rfl) ?_;refine RD.tS 2 rfl (fun w' s' => .field0 fo27_2 rfl) ?_;refine RD.tS 3 rfl (fun w' s' => .load1 sh2 rfl ((hb_3.step s' (fun e => e.elim (fun e => n_3__5 e) (fun e => Nat.not_le.2 ltD_b_3 e))).cell rfl)) ?_;refine RD.tS 6 rfl (fun w' s' => .buildS ze31 pl31 rfl rfl) ?_;refine RD.all [1, 4] (by kernel_rfl) rfl (RDs.cons rfl ?_ (RDs.cons rfl ?_ (RDs.nil)))
     ·
      refine RL.call rfl ok51 (c_clip a l.length c hc w10) rfl rfl ?_;rintro _ w12 ⟨rfl, s13⟩;have S := S.trans s13;have hb_3 := hb_3.sub s13;have hb_5 := hb_5.sub s13;have szD := Nat.le_trans szD s13.size;refine RD.back s13.agr ?_;refine RD.oneS 4 rfl ?_;refine RL.buildSlice1 sl23 _ ze2 rfl rfl rfl rfl rfl rfl rfl (fun b_30 w_30 e_30 z_30 hb_30 s_30 => ?_)
      have fr_b_30 : w_5.heap.size ≤ b_30 := by rw [e_30]; exact szD
      have S := S.trans s_30;have hb_3 := hb_3.sub s_30;have hb_5 := hb_5.sub s_30;have szD := Nat.le_trans szD s_30.size;refine RD.back s_30.agr ?_;refine RD.oneS 5 rfl ?_;refine RL.append2 (base := w_5.heap.size) (rows := l.map fun x => [i6 x]) (news := [[i6 o.a]]) sl23 ze2 rfl rfl rfl rfl (.inr ⟨a, by rw [List.length_map], hl.sub S, fun r hr => by obtain ⟨z, _, rfl⟩ := List.mem_map.1 hr; rfl⟩) (Has.slOne hb_30) rfl (fun r hr => by rw [List.mem_singleton.1 hr]; rfl) rfl (by rw [List.length_map]; omega) (by rw [List.length_map]; omega) szD rfl rfl (fun v31 w14 hc31 ho31 ag31 ob31 => ?_)
      have o31 := ho31 (.inl (by simp))
      have S := S.agrN ag31 (fun k e => Nat.le_trans ent_S e.2)
      have hb_3 := hb_3.step ag31 (fun e => Nat.not_le.2 ltD_b_3 e.2);have hb_5 := hb_5.step ag31 (fun e => Nat.not_le.2 ltD_b_5 e.2);have szD := Nat.le_trans szD ag31.size
      obtain ⟨a31, c31, rfl, k31⟩ := o31.form
      have d31_5 := (fun k hk (e : k = b_5) => by have := (o31.ge k hk).1; have := ltD_b_5; omega : ∀ k, _ → k ≠ b_5)
      have d31_3 := (fun k hk (e : k = b_3) => by have := (o31.ge k hk).1; have := ltD_b_3; omega : ∀ k, _ → k ≠ b_3)
      refine RD.backW rfl (ag31.mono fun k _ e => .inr e.2) ?_;refine RD.tS 7 rfl (fun w' s' => .assign rfl) ?_;refine RD.oneS 8 rfl ?_;refine RL.stS sh31 rfl rfl rfl hb_5 (fun w15 z15 hb_5 a15 => ?_);have S := S.upd a15 ge_5;have hb_3 := hb_3.upd a15 n_3__5;have szD := Nat.le_trans szD a15.size;have o31 := o31.updD a15 d31_5
      have hb_5 : Has w15 b_5 ([.int .i64 0, .int .i64 0, .int .i64 0]) _ := hb_5.now (by kernel_rfl)
      refine RD.backW rfl (a15.mono fun k _ e => e ▸ (.inl (rfl))) ?_;refine RD.done (by kernel_rfl) (RC.back ?_);refine RC.done (rs := [.tmp 4, .cell 5 31]) (vs := [_, _]) rfl rfl ⟨rfl, ⟨_, rfl, .inr ⟨[.int .i64 0, .int .i64 0, .int .i64 0], sh31, hb_5.row, rfl⟩⟩, trivial⟩ ?_
      have he : rowM l o = (l ++ [o.a], ⟨0, 0, 0⟩) := (by rw [rowM, if_neg n11, if_pos (by omega), if_neg (by omega), if_pos k25])
      rw [he]
      exact ⟨S, a31, c31, _, by rw [show (l ++ [o.a]).length = ((l.map fun x => [i6 x]) ++ [[i6 o.a]]).length from by simp]; rfl, by have q := k31; simp at q ⊢; omega, (by rw [List.map_append]; exact o31.ft.imp (fun u h => h.sl.1)), fun k hk => .inr (Nat.le_trans ent_S (o31.ge k hk).1)⟩
     ·
      refine RL.buildSlice1 sl23 _ ze2 rfl rfl rfl rfl rfl rfl rfl (fun b_30 w_30 e_30 z_30 hb_30 s_30 => ?_)
      have fr_b_30 : w_5.heap.size ≤ b_30 := by rw [e_30]; exact szD
      have S := S.trans s_30;have hb_3 := hb_3.sub s_30;have hb_5 := hb_5.sub s_30;have szD := Nat.le_trans szD s_30.size;refine RD.back s_30.agr ?_;refine RD.oneS 1 rfl ?_;refine RL.call rfl ok51 (c_clip a l.length c hc w_30) rfl rfl ?_;rintro _ w16 ⟨rfl, s17⟩;have S := S.trans s17;have hb_3 := hb_3.sub s17;have hb_5 := hb_5.sub s17;have szD := Nat.le_trans szD s17.size;have hb_30 := hb_30.sub s17;refine RD.back s17.agr ?_;refine RD.oneS 5 rfl ?_;refine RL.append2 (base := w_5.heap.size) (rows := l.map fun x => [i6 x]) (news := [[i6 o.a]]) sl23 ze2 rfl rfl rfl rfl (.inr ⟨a, by rw [List.length_map], hl.sub S, fun r hr => by obtain ⟨z, _, rfl⟩ := List.mem_map.1 hr; rfl⟩) (Has.slOne hb_30) rfl (fun r hr => by rw [List.mem_singleton.1 hr]; rfl) rfl (by rw [List.length_map]; omega) (by rw [List.length_map]; omega) szD rfl rfl (fun v31 w18 hc31 ho31 ag31 ob31 => ?_)
      have o31 := ho31 (.inl (by simp))
      have S := S.agrN ag31 (fun k e => Nat.le_trans ent_S e.2)
      have hb_3 := hb_3.step ag31 (fun e => Nat.not_le.2 ltD_b_3 e.2);have hb_5 := hb_5.step ag31 (fun e => Nat.not_le.2 ltD_b_5 e.2);have szD := Nat.le_trans szD ag31.size
      obtain ⟨a31, c31, rfl, k31⟩ := o31.form
      have d31_5 := (fun k hk (e : k = b_5) => by have := (o31.ge k hk).1; have := ltD_b_5; omega : ∀ k, _ → k ≠ b_5)
      have d31_3 := (fun k hk (e : k = b_3) => by have := (o31.ge k hk).1; have := ltD_b_3; omega : ∀ k, _ → k ≠ b_3)
      refine RD.backW rfl (ag31.mono fun k _ e => .inr e.2) ?_;refine RD.tS 7 rfl (fun w' s' => .assign rfl) ?_;refine RD.oneS 8 rfl ?_;refine RL.stS sh31 rfl rfl rfl hb_5 (fun w19 z19 hb_5 a19 => ?_);have S := S.upd a19 ge_5;have hb_3 := hb_3.upd a19 n_3__5;have szD := Nat.le_trans szD a19.size;have o31 := o31.updD a19 d31_5
      have hb_5 : Has w19 b_5 ([.int .i64 0, .int .i64 0, .int .i64 0]) _ := hb_5.now (by kernel_rfl)
      refine RD.backW rfl (a19.mono fun k _ e => e ▸ (.inl (rfl))) ?_;refine RD.done (by kernel_rfl) (RC.back ?_);refine RC.done (rs := [.tmp 4, .cell 5 31]) (vs := [_, _]) rfl rfl ⟨rfl, ⟨_, rfl, .inr ⟨[.int .i64 0, .int .i64 0, .int .i64 0], sh31, hb_5.row, rfl⟩⟩, trivial⟩ ?_
      have he : rowM l o = (l ++ [o.a], ⟨0, 0, 0⟩) := (by rw [rowM, if_neg n11, if_pos (by omega), if_neg (by omega), if_pos k25])
      rw [he]
      exact ⟨S, a31, c31, _, by rw [show (l ++ [o.a]).length = ((l.map fun x => [i6 x]) ++ [[i6 o.a]]).length from by simp]; rfl, by have q := k31; simp at q ⊢; omega, (by rw [List.map_append]; exact o31.ft.imp (fun u h => h.sl.1)), fun k hk => .inr (Nat.le_trans ent_S (o31.ge k hk).1)⟩
    ·
     have n25 := h9
     refine RC.skip (RC.back (RC.seq (RC.region rfl ?_)));refine RL.eS (.field0 fo27_2 rfl) ?_;refine RL.eS (.load1 sh2 rfl (hb_3.cell rfl)) ?_;refine RL.buildSlice1 sl23 _ ze2 rfl rfl rfl rfl rfl rfl rfl (fun b_35 w_35 e_35 z_35 hb_35 s_35 => ?_);have n_3__35 := hb_3.ne e_35;have n_5__35 := hb_5.ne e_35;have S := S.trans s_35;have hb_3 := hb_3.sub s_35;have hb_5 := hb_5.sub s_35;refine RL.mvS rfl ?_;have sz_37 := S.size
     have ltb_3_37 := hb_3.lt
     have ltb_5_37 := hb_5.lt
     have ltb_35_37 := hb_35.lt
     refine RL.append2 (base := w.heap.size) (rows := [[i6 o.a]]) (news := l.map fun x => [i6 x]) sl23 ze2 rfl rfl rfl rfl (.inl (Ows.of_has (rows := [[i6 o.a]]) (extra := []) hb_35 (by simp) (by omega) (Nat.le_refl _) (by decide) rfl)) (hl.sub S) (by (try simp only [List.length_map]); first | done | rfl) (by intro r hr; obtain ⟨x, _, rfl⟩ := List.mem_map.1 hr; rfl) (by rw [List.all_eq_true]; intro r hr; obtain ⟨x, _, rfl⟩ := List.mem_map.1 hr; rfl) (by (try simp only [List.length_map, List.length_nil, List.length_append, List.length_cons]); omega) (by (try simp only [List.length_map, List.length_nil, List.length_append, List.length_cons]); omega) (by omega) rfl rfl (fun v_37 w_37 hc_37 ho_37 ag_37 ob_37 => ?_)
     have o37 := ho_37 (.inr (Ows.of_has (rows := [[i6 o.a]]) (extra := []) hb_35 (by simp) (by omega) (Nat.le_refl _) (by decide) rfl))
     have d_o37_b_5 := obNe ob_37 (fun k hk e => n_5__35.symm ((obLit hk).trans e)) hb_5.lt
     have S := S.agrN ag_37 (fun k e => Nat.le_trans (by omega) e.2)
     have hb_3 := hb_3.step ag_37 (fun e => n_3__35.symm (obLit e.1));have hb_5 := hb_5.step ag_37 (fun e => n_5__35.symm (obLit e.1))
     obtain ⟨a_37, c_37, rfl, k_37⟩ := o37.form
     refine RL.eS (.buildS ze31 pl31 rfl rfl) ?_;refine RL.asS rfl ?_;refine RL.stS sh31 rfl rfl rfl hb_5 (fun w20 z20 hb_5 a20 => ?_);have S := S.upd a20 ge_5;have hb_3 := hb_3.upd a20 n_3__5;have o37 := o37.updD a20 d_o37_b_5
     have hb_5 : Has w20 b_5 ([.int .i64 0, .int .i64 0, .int .i64 0]) _ := hb_5.now (by kernel_rfl)
     refine RL.nil (RC.back ?_);refine RC.done (rs := [.tmp 4, .cell 5 31]) (vs := [_, _]) rfl rfl ⟨rfl, ⟨_, rfl, .inr ⟨[.int .i64 0, .int .i64 0, .int .i64 0], sh31, hb_5.row, rfl⟩⟩, trivial⟩ ?_
     exact absurd k16 (by omega)
  ·
   have n16 := h3
   refine RC.region rfl ?_;refine RL.eS (.bin rfl rfl rfl) ?_;refine RL.asS rfl ?_;refine RL.nil (RC.back ?_);refine RC.cond_dec rfl (fun h21 => ?_) (fun h21 => ?_)
   ·
    have k16 := h21
    refine RC.seq (RC.seq (RC.region rfl ?_));refine RL.mvS rfl ?_;refine RL.eS (.bin rfl rfl rfl) ?_;refine RL.nil (RC.back ?_);refine RC.cond_dec rfl (fun h22 => ?_) (fun h22 => ?_)
    ·
     have k20 := h22
     refine RC.seq (RC.region rfl ?_);refine RL.mvS rfl ?_;refine RL.call rfl ok49 (c_full w_5) rfl rfl ?_;rintro _ w23 ⟨rfl, s24⟩;have S := S.trans s24;have hb_3 := hb_3.sub s24;have hb_5 := hb_5.sub s24;refine RL.asS rfl ?_;refine RL.stS sh31 rfl rfl rfl hb_5 (fun w25 z25 hb_5 a25 => ?_);have S := S.upd a25 ge_5;have hb_3 := hb_3.upd a25 n_3__5
     have hb_5 : Has w25 b_5 ([.int .i64 5, .int .i64 0, .int .i64 0]) _ := hb_5.now (by kernel_rfl)
     refine RL.nil (RC.back ?_);refine RC.done (rs := [.tmp 4, .cell 5 31]) (vs := [_, _]) rfl rfl ⟨rfl, ⟨_, rfl, .inr ⟨[.int .i64 5, .int .i64 0, .int .i64 0], sh31, hb_5.row, rfl⟩⟩, trivial⟩ ?_
     have he : rowM l o = (l, ⟨5, 0, 0⟩) := (by rw [rowM, if_neg n11, if_pos (by omega), if_pos (by omega)])
     rw [he]
     exact ⟨S, _, _, M, rfl, hc, hF.sub S, Up.refl _ _⟩
    ·
     have n20 := h22
     refine RC.skip (RC.back (RC.seq (RC.seq (RC.region rfl ?_))));refine RL.eS (.field0 fo27_1 rfl) ?_;refine RL.eS (.load1 sh3 rfl (hb_3.cell rfl)) ?_;refine RL.eS (.bin rfl rfl rfl) ?_;refine RL.nil (RC.back ?_);refine RC.cond_dec rfl (fun h26 => ?_) (fun h26 => ?_)
     ·
      have k25 := h26
      refine RC.seq ?_;refine RC.drawD (fun k => k = b_5) [5, 8] w_5.heap.size 9 rfl rfl mxo (fun w27 s28 => ?_)
      have hNN : ∀ k, ((k = b_5) ∨ w_5.heap.size ≤ k) → w.heap.size ≤ k := fun k e => e.elim (fun e => e ▸ ge_5) (fun e => Nat.le_trans S.size e)
      have ent_S := S.size
      have hN0 : ∀ k, w_5.heap.size ≤ k → w.heap.size ≤ k := fun k e => Nat.le_trans S.size e
      have ltD_b_3 := hb_3.lt;have ltD_b_5 := hb_5.lt;have szD := Nat.le_refl w_5.heap.size;have S := S.trans s28;have hb_3 := hb_3.sub s28;have hb_5 := hb_5.sub s28;have szD := Nat.le_trans szD s28.size;refine RD.tS 0 rfl (fun w' s' => .move rfl) ?_;refine RD.tS 2 rfl (fun w' s' => .field0 fo27_2 rfl) ?_;refine RD.tS 3 rfl (fun w' s' => .load1 sh2 rfl ((hb_3.step s' (fun e => e.elim (fun e => n_3__5 e) (fun e => Nat.not_le.2 ltD_b_3 e))).cell rfl)) ?_;refine RD.tS 6 rfl (fun w' s' => .buildS ze31 pl31 rfl rfl) ?_;refine RD.all [1, 4] (by kernel_rfl) rfl (RDs.cons rfl ?_ (RDs.cons rfl ?_ (RDs.nil)))
      ·
       refine RL.call rfl ok51 (c_clip a l.length c hc w27) rfl rfl ?_;rintro _ w29 ⟨rfl, s30⟩;have S := S.trans s30;have hb_3 := hb_3.sub s30;have hb_5 := hb_5.sub s30;have szD := Nat.le_trans szD s30.size;refine RD.back s30.agr ?_;refine RD.oneS 4 rfl ?_;refine RL.buildSlice1 sl23 _ ze2 rfl rfl rfl rfl rfl rfl rfl (fun b_30 w_30 e_30 z_30 hb_30 s_30 => ?_)
       have fr_b_30 : w_5.heap.size ≤ b_30 := by rw [e_30]; exact szD
       have S := S.trans s_30;have hb_3 := hb_3.sub s_30;have hb_5 := hb_5.sub s_30;have szD := Nat.le_trans szD s_30.size;refine RD.back s_30.agr ?_;refine RD.oneS 5 rfl ?_;refine RL.append2 (base := w_5.heap.size) (rows := l.map fun x => [i6 x]) (news := [[i6 o.a]]) sl23 ze2 rfl rfl rfl rfl (.inr ⟨a, by rw [List.length_map], hl.sub S, fun r hr => by obtain ⟨z, _, rfl⟩ := List.mem_map.1 hr; rfl⟩) (Has.slOne hb_30) rfl (fun r hr => by rw [List.mem_singleton.1 hr]; rfl) rfl (by rw [List.length_map]; omega) (by rw [List.length_map]; omega) szD rfl rfl (fun v31 w31 hc31 ho31 ag31 ob31 => ?_)
       have o31 := ho31 (.inl (by simp))
       have S := S.agrN ag31 (fun k e => Nat.le_trans ent_S e.2)
       have hb_3 := hb_3.step ag31 (fun e => Nat.not_le.2 ltD_b_3 e.2);have hb_5 := hb_5.step ag31 (fun e => Nat.not_le.2 ltD_b_5 e.2);have szD := Nat.le_trans szD ag31.size
       obtain ⟨a31, c31, rfl, k31⟩ := o31.form
       have d31_5 := (fun k hk (e : k = b_5) => by have := (o31.ge k hk).1; have := ltD_b_5; omega : ∀ k, _ → k ≠ b_5)
       have d31_3 := (fun k hk (e : k = b_3) => by have := (o31.ge k hk).1; have := ltD_b_3; omega : ∀ k, _ → k ≠ b_3)
       refine RD.backW rfl (ag31.mono fun k _ e => .inr e.2) ?_;refine RD.tS 7 rfl (fun w' s' => .assign rfl) ?_;refine RD.oneS 8 rfl ?_;refine RL.stS sh31 rfl rfl rfl hb_5 (fun w32 z32 hb_5 a32 => ?_);have S := S.upd a32 ge_5;have hb_3 := hb_3.upd a32 n_3__5;have szD := Nat.le_trans szD a32.size;have o31 := o31.updD a32 d31_5
       have hb_5 : Has w32 b_5 ([.int .i64 0, .int .i64 0, .int .i64 0]) _ := hb_5.now (by kernel_rfl)
       refine RD.backW rfl (a32.mono fun k _ e => e ▸ (.inl (rfl))) ?_;refine RD.done (by kernel_rfl) (RC.back ?_);refine RC.done (rs := [.tmp 4, .cell 5 31]) (vs := [_, _]) rfl rfl ⟨rfl, ⟨_, rfl, .inr ⟨[.int .i64 0, .int .i64 0, .int .i64 0], sh31, hb_5.row, rfl⟩⟩, trivial⟩ ?_
       exact absurd k25 (by omega)
      ·
       refine RL.buildSlice1 sl23 _ ze2 rfl rfl rfl rfl rfl rfl rfl (fun b_30 w_30 e_30 z_30 hb_30 s_30 => ?_)
       have fr_b_30 : w_5.heap.size ≤ b_30 := by rw [e_30]; exact szD
       have S := S.trans s_30;have hb_3 := hb_3.sub s_30;have hb_5 := hb_5.sub s_30;have szD := Nat.le_trans szD s_30.size;refine RD.back s_30.agr ?_;refine RD.oneS 1 rfl ?_;refine RL.call rfl ok51 (c_clip a l.length c hc w_30) rfl rfl ?_;rintro _ w33 ⟨rfl, s34⟩;have S := S.trans s34;have hb_3 := hb_3.sub s34;have hb_5 := hb_5.sub s34;have szD := Nat.le_trans szD s34.size;have hb_30 := hb_30.sub s34;refine RD.back s34.agr ?_;refine RD.oneS 5 rfl ?_;refine RL.append2 (base := w_5.heap.size) (rows := l.map fun x => [i6 x]) (news := [[i6 o.a]]) sl23 ze2 rfl rfl rfl rfl (.inr ⟨a, by rw [List.length_map], hl.sub S, fun r hr => by obtain ⟨z, _, rfl⟩ := List.mem_map.1 hr; rfl⟩) (Has.slOne hb_30) rfl (fun r hr => by rw [List.mem_singleton.1 hr]; rfl) rfl (by rw [List.length_map]; omega) (by rw [List.length_map]; omega) szD rfl rfl (fun v31 w35 hc31 ho31 ag31 ob31 => ?_)
       have o31 := ho31 (.inl (by simp))
       have S := S.agrN ag31 (fun k e => Nat.le_trans ent_S e.2)
       have hb_3 := hb_3.step ag31 (fun e => Nat.not_le.2 ltD_b_3 e.2);have hb_5 := hb_5.step ag31 (fun e => Nat.not_le.2 ltD_b_5 e.2)
       obtain ⟨a31, c31, rfl, k31⟩ := o31.form
       have d31_5 := (fun k hk (e : k = b_5) => by have := (o31.ge k hk).1; have := ltD_b_5; omega : ∀ k, _ → k ≠ b_5)
       have d31_3 := (fun k hk (e : k = b_3) => by have := (o31.ge k hk).1; have := ltD_b_3; omega : ∀ k, _ → k ≠ b_3)
       refine RD.backW rfl (ag31.mono fun k _ e => .inr e.2) ?_;refine RD.tS 7 rfl (fun w' s' => .assign rfl) ?_;refine RD.oneS 8 rfl ?_;refine RL.stS sh31 rfl rfl rfl hb_5 (fun w36 z36 hb_5 a36 => ?_);have S := S.upd a36 ge_5;have hb_3 := hb_3.upd a36 n_3__5
       have hb_5 : Has w36 b_5 ([.int .i64 0, .int .i64 0, .int .i64 0]) _ := hb_5.now (by kernel_rfl)
       refine RD.backW rfl (a36.mono fun k _ e => e ▸ (.inl (rfl))) ?_;refine RD.done (by kernel_rfl) (RC.back ?_);refine RC.done (rs := [.tmp 4, .cell 5 31]) (vs := [_, _]) rfl rfl ⟨rfl, ⟨_, rfl, .inr ⟨[.int .i64 0, .int .i64 0, .int .i64 0], sh31, hb_5.row, rfl⟩⟩, trivial⟩ ?_
       exact absurd k25 (by omega)
     ·
      have n25 := h26
      refine RC.skip (RC.back (RC.seq (RC.region rfl ?_)));refine RL.eS (.field0 fo27_2 rfl) ?_;refine RL.eS (.load1 sh2 rfl (hb_3.cell rfl)) ?_;refine RL.buildSlice1 sl23 _ ze2 rfl rfl rfl rfl rfl rfl rfl (fun b_35 w_35 e_35 z_35 hb_35 s_35 => ?_);have n_3__35 := hb_3.ne e_35;have n_5__35 := hb_5.ne e_35;have S := S.trans s_35;have hb_3 := hb_3.sub s_35;have hb_5 := hb_5.sub s_35;refine RL.mvS rfl ?_;have sz_37 := S.size
      have ltb_3_37 := hb_3.lt
      have ltb_5_37 := hb_5.lt
      have ltb_35_37 := hb_35.lt
      refine RL.append2 (base := w.heap.size) (rows := [[i6 o.a]]) (news := l.map fun x => [i6 x]) sl23 ze2 rfl rfl rfl rfl (.inl (Ows.of_has (rows := [[i6 o.a]]) (extra := []) hb_35 (by simp) (by omega) (Nat.le_refl _) (by decide) rfl)) (hl.sub S) (by (try simp only [List.length_map]); first | done | rfl) (by intro r hr; obtain ⟨x, _, rfl⟩ := List.mem_map.1 hr; rfl) (by rw [List.all_eq_true]; intro r hr; obtain ⟨x, _, rfl⟩ := List.mem_map.1 hr; rfl) (by (try simp only [List.length_map, List.length_nil, List.length_append, List.length_cons]); omega) (by (try simp only [List.length_map, List.length_nil, List.length_append, List.length_cons]); omega) (by omega) rfl rfl (fun v_37 w_37 hc_37 ho_37 ag_37 ob_37 => ?_)
      have o37 := ho_37 (.inr (Ows.of_has (rows := [[i6 o.a]]) (extra := []) hb_35 (by simp) (by omega) (Nat.le_refl _) (by decide) rfl))
      have d_o37_b_5 := obNe ob_37 (fun k hk e => n_5__35.symm ((obLit hk).trans e)) hb_5.lt
      have S := S.agrN ag_37 (fun k e => Nat.le_trans (by omega) e.2)
      have hb_3 := hb_3.step ag_37 (fun e => n_3__35.symm (obLit e.1));have hb_5 := hb_5.step ag_37 (fun e => n_5__35.symm (obLit e.1))
      obtain ⟨a_37, c_37, rfl, k_37⟩ := o37.form
      refine RL.eS (.buildS ze31 pl31 rfl rfl) ?_;refine RL.asS rfl ?_;refine RL.stS sh31 rfl rfl rfl hb_5 (fun w37 z37 hb_5 a37 => ?_);have S := S.upd a37 ge_5;have hb_3 := hb_3.upd a37 n_3__5;have o37 := o37.updD a37 d_o37_b_5
      have hb_5 : Has w37 b_5 ([.int .i64 0, .int .i64 0, .int .i64 0]) _ := hb_5.now (by kernel_rfl)
      refine RL.nil (RC.back ?_);refine RC.done (rs := [.tmp 4, .cell 5 31]) (vs := [_, _]) rfl rfl ⟨rfl, ⟨_, rfl, .inr ⟨[.int .i64 0, .int .i64 0, .int .i64 0], sh31, hb_5.row, rfl⟩⟩, trivial⟩ ?_
      have he : rowM l o = (o.a :: l, ⟨0, 0, 0⟩) := (by rw [rowM, if_neg n11, if_pos (by omega), if_neg (by omega), if_neg n25])
      rw [he]
      exact ⟨S, a_37, c_37, _, by rw [show (o.a :: l).length = ([[i6 o.a]] ++ (l.map fun x => [i6 x])).length from by simp]; rfl, by have q := k_37; simp at q ⊢; omega, o37.ft.imp (fun u h => h.sl.1), fun k hk => .inr (o37.ge k hk).1⟩
   ·
    have n16 := h21
    refine RC.seq (RC.region rfl ?_);refine RL.eS (.bin rfl rfl rfl) ?_;refine RL.asS rfl ?_;refine RL.nil (RC.back ?_);refine RC.cond_dec rfl (fun h38 => ?_) (fun h38 => ?_)
    ·
     have k39 := h38
     refine RC.seq (RC.seq (RC.region rfl ?_));refine RL.eS (.field0 fo27_2 rfl) ?_;refine RL.eS (.load1 sh2 rfl (hb_3.cell rfl)) ?_;refine RL.eS (.bin rfl rfl rfl) ?_;refine RL.mvS rfl ?_;refine RL.split 44 rfl (fun h39 => ?_) (fun h39 => ?_)
     ·
      have k44 := h39
      refine RL.offs 4 rfl ?_;refine RL.eS (.pick_t rfl rfl) ?_;refine RL.nil (RC.back ?_);refine RC.cond_t rfl ?_;refine RC.seq (RC.region rfl ?_);refine RL.mvS rfl ?_;refine RL.call rfl ok46 (c_none w_5) rfl rfl ?_;rintro _ w40 ⟨rfl, s41⟩;have S := S.trans s41;have hb_3 := hb_3.sub s41;have hb_5 := hb_5.sub s41;refine RL.asS rfl ?_;refine RL.stS sh31 rfl rfl rfl hb_5 (fun w42 z42 hb_5 a42 => ?_);have S := S.upd a42 ge_5;have hb_3 := hb_3.upd a42 n_3__5
      have hb_5 : Has w42 b_5 ([.int .i64 3, .int .i64 0, .int .i64 0]) _ := hb_5.now (by kernel_rfl)
      refine RL.nil (RC.back ?_);refine RC.done (rs := [.tmp 4, .cell 5 31]) (vs := [_, _]) rfl rfl ⟨rfl, ⟨_, rfl, .inr ⟨[.int .i64 3, .int .i64 0, .int .i64 0], sh31, hb_5.row, rfl⟩⟩, trivial⟩ ?_
      have he : rowM l o = (l, ⟨3, 0, 0⟩) := (by rw [rowM, if_neg n11, if_neg (by omega), if_pos (by omega), if_pos (by omega)])
      rw [he]
      exact ⟨S, _, _, M, rfl, hc, hF.sub S, Up.refl _ _⟩
     ·
      have n44 := h39
      refine RL.eS (.field0 fo27_2 rfl) ?_;refine RL.eS (.load1 sh2 rfl (hb_3.cell rfl)) ?_;refine RL.mvS rfl ?_;refine RL.eS (.bin rfl rfl rfl) ?_;refine RL.eS (.pick_f rfl rfl) ?_;refine RL.nil (RC.back ?_);refine RC.cond_dec rfl (fun h43 => ?_) (fun h43 => ?_)
      ·
       have k49 := h43
       refine RC.seq (RC.region rfl ?_);refine RL.mvS rfl ?_;refine RL.call rfl ok46 (c_none w_5) rfl rfl ?_;rintro _ w44 ⟨rfl, s45⟩;have S := S.trans s45;have hb_3 := hb_3.sub s45;have hb_5 := hb_5.sub s45;refine RL.asS rfl ?_;refine RL.stS sh31 rfl rfl rfl hb_5 (fun w46 z46 hb_5 a46 => ?_);have S := S.upd a46 ge_5;have hb_3 := hb_3.upd a46 n_3__5
       have hb_5 : Has w46 b_5 ([.int .i64 3, .int .i64 0, .int .i64 0]) _ := hb_5.now (by kernel_rfl)
       refine RL.nil (RC.back ?_);refine RC.done (rs := [.tmp 4, .cell 5 31]) (vs := [_, _]) rfl rfl ⟨rfl, ⟨_, rfl, .inr ⟨[.int .i64 3, .int .i64 0, .int .i64 0], sh31, hb_5.row, rfl⟩⟩, trivial⟩ ?_
       have he : rowM l o = (l, ⟨3, 0, 0⟩) := (by rw [rowM, if_neg n11, if_neg (by omega), if_pos (by omega), if_pos (by omega)])
       rw [he]
       exact ⟨S, _, _, M, rfl, hc, hF.sub S, Up.refl _ _⟩
      ·
       have n49 := h43
       obtain ⟨x, hx⟩ := getSome (l := l) (i := o.a.toNat) (by omega)
       have hxd := getDm_of hx
       refine RC.skip (RC.back (RC.seq ?_));refine RC.drawD (fun k => k = b_5) [8] w_5.heap.size 9 rfl rfl mxo (fun w47 s48 => ?_)
       have hNN : ∀ k, ((k = b_5) ∨ w_5.heap.size ≤ k) → w.heap.size ≤ k := fun k e => e.elim (fun e => e ▸ ge_5) (fun e => Nat.le_trans S.size e)
       have hN0 : ∀ k, w_5.heap.size ≤ k → w.heap.size ≤ k := fun k e => Nat.le_trans S.size e
       have ltD_b_3 := hb_3.lt;have S := S.trans s48;have hb_3 := hb_3.sub s48;have hb_5 := hb_5.sub s48;refine RD.tS 0 rfl (fun w' s' => .move rfl) ?_;refine RD.tS 1 rfl (fun w' s' => .move rfl) ?_;refine RD.tS 2 rfl (fun w' s' => .field0 fo27_2 rfl) ?_;refine RD.tS 3 rfl (fun w' s' => .load1 sh2 rfl ((hb_3.step s' (fun e => e.elim (fun e => n_3__5 e) (fun e => Nat.not_le.2 ltD_b_3 e))).cell rfl)) ?_;refine RD.tS 4 rfl (fun w' s' => .indexS sl23 rfl rfl (by omega) (hl.is (i := 0) (by simp only [List.length_map, List.length_cons, List.length_nil]; omega))) ?_;refine RD.tS 5 rfl (fun w' s' => .load1 sh2 rfl ((hl.sub (S.agrN s' hNN)).one (enc := i6) (i := o.a.toNat) hx)) ?_;refine RD.tS 6 rfl (fun w' s' => .buildS ze31 pl31 rfl rfl) ?_;refine RD.tS 7 rfl (fun w' s' => .assign rfl) ?_;refine RD.oneS 8 rfl ?_;refine RL.stS sh31 rfl rfl rfl hb_5 (fun w49 z49 hb_5 a49 => ?_);have S := S.upd a49 ge_5;have hb_3 := hb_3.upd a49 n_3__5
       have hb_5 : Has w49 b_5 ([.int .i64 0, .int .i64 x, .int .i64 0]) _ := hb_5.now (by kernel_rfl)
       refine RD.backW rfl (a49.mono fun k _ e => e ▸ (.inl (rfl))) ?_;refine RD.done (by kernel_rfl) (RC.back ?_);refine RC.done (rs := [.tmp 4, .cell 5 31]) (vs := [_, _]) rfl rfl ⟨rfl, ⟨_, rfl, .inr ⟨[.int .i64 0, .int .i64 x, .int .i64 0], sh31, hb_5.row, rfl⟩⟩, trivial⟩ ?_
       have he : rowM l o = (l, ⟨0, x, 0⟩) := (by rw [rowM, if_neg n11, if_neg (by omega), if_pos (by omega), if_neg (by omega), hxd])
       rw [he]
       exact ⟨S, _, _, M, rfl, hc, hF.sub S, Up.refl _ _⟩
    ·
     have n39 := h38
     refine RC.skip (RC.back (RC.seq (RC.block (RC.seq (RC.region rfl ?_)))));refine RL.mvS rfl ?_;refine RL.eS (.bin rfl rfl rfl) ?_;refine RL.asS rfl ?_;refine RL.nil (RC.back ?_);refine RC.cond_dec rfl (fun h50 => ?_) (fun h50 => ?_)
     ·
      have k59 : l.length = 0 := (by omega)
      refine RC.seq (RC.region rfl ?_);refine RL.mvS rfl ?_;refine RL.call rfl ok46 (c_none w_5) rfl rfl ?_;rintro _ w51 ⟨rfl, s52⟩;have S := S.trans s52;have hb_3 := hb_3.sub s52;have hb_5 := hb_5.sub s52;refine RL.asS rfl ?_;refine RL.stS sh31 rfl rfl rfl hb_5 (fun w53 z53 hb_5 a53 => ?_);have S := S.upd a53 ge_5;have hb_3 := hb_3.upd a53 n_3__5
      have hb_5 : Has w53 b_5 ([.int .i64 3, .int .i64 0, .int .i64 0]) _ := hb_5.now (by kernel_rfl)
      refine RL.nil (RC.back ?_);refine RC.done (rs := [.tmp 4, .cell 5 31]) (vs := [_, _]) rfl rfl ⟨rfl, ⟨_, rfl, .inr ⟨[.int .i64 3, .int .i64 0, .int .i64 0], sh31, hb_5.row, rfl⟩⟩, trivial⟩ ?_
      have he : rowM l o = (l, ⟨3, 0, 0⟩) := (by rw [rowM, if_neg n11, if_neg (by omega), if_neg n39, if_pos k59])
      rw [he]
      exact ⟨S, _, _, M, rfl, hc, hF.sub S, Up.refl _ _⟩
     ·
      have n59 : 0 < l.length := (by omega)
      obtain ⟨x, hx⟩ := getSome (l := l) (i := l.length - 1) (by omega)
      have hxd := getDm_of hx
      obtain ⟨y, hy⟩ := getSome (l := l) (i := 0) n59
      have hyd := getDm_of hy
      refine RC.seq (RC.region rfl ?_);refine RL.eS (.field0 fo27_1 rfl) ?_;refine RL.eS (.load1 sh3 rfl (hb_3.cell rfl)) ?_;refine RL.eS (.bin rfl rfl rfl) ?_;refine RL.asS rfl ?_;refine RL.nil (RC.back ?_);refine RC.cond_dec rfl (fun h54 => ?_) (fun h54 => ?_)
      ·
       have k64 := h54
       refine RC.seq ?_;refine RC.drawD (fun k => k = b_5) [11] w_5.heap.size 12 rfl rfl mxo (fun w55 s56 => ?_)
       have hNN : ∀ k, ((k = b_5) ∨ w_5.heap.size ≤ k) → w.heap.size ≤ k := fun k e => e.elim (fun e => e ▸ ge_5) (fun e => Nat.le_trans S.size e)
       have hN0 : ∀ k, w_5.heap.size ≤ k → w.heap.size ≤ k := fun k e => Nat.le_trans S.size e
       have S := S.trans s56;have hb_5 := hb_5.sub s56;refine RD.tS 0 rfl (fun w' s' => .move rfl) ?_;refine RD.tS 1 rfl (fun w' s' => .move rfl) ?_;refine RD.tS 2 rfl (fun w' s' => .as (.bin rfl rfl rfl) (wi64 (y := ((l.length - 1 : Nat) : Int)) (by omega) (by omega))) ?_;refine RD.tS 3 rfl (fun w' s' => .sliceHi sl23 rfl rfl (by omega)) ?_;refine RD.tS 4 rfl (fun w' s' => .move rfl) ?_;refine RD.tS 5 rfl (fun w' s' => .move rfl) ?_;refine RD.tS 6 rfl (fun w' s' => .as (.bin rfl rfl rfl) (wi64 (y := ((l.length - 1 : Nat) : Int)) (by omega) (by omega))) ?_;refine RD.tS 7 rfl (fun w' s' => .indexS sl23 rfl rfl (by omega) (hl.is (i := 0) (by simp only [List.length_map, List.length_cons, List.length_nil]; omega))) ?_;refine RD.tS 8 rfl (fun w' s' => .load1 sh2 rfl ((hl.sub (S.agrN s' hNN)).one (enc := i6) (i := l.length - 1) hx)) ?_;refine RD.tS 9 rfl (fun w' s' => .buildS ze31 pl31 rfl rfl) ?_;refine RD.tS 10 rfl (fun w' s' => .assign rfl) ?_;refine RD.oneS 11 rfl ?_;refine RL.stS sh31 rfl rfl rfl hb_5 (fun w57 z57 hb_5 a57 => ?_);have S := S.upd a57 ge_5
       have hb_5 : Has w57 b_5 ([.int .i64 0, .int .i64 x, .int .i64 0]) _ := hb_5.now (by kernel_rfl)
       refine RD.backW rfl (a57.mono fun k _ e => e ▸ (.inl (rfl))) ?_;refine RD.done (by kernel_rfl) (RC.back ?_);refine RC.done (rs := [.tmp 4, .cell 5 31]) (vs := [_, _]) rfl rfl ⟨rfl, ⟨_, rfl, .inr ⟨[.int .i64 0, .int .i64 x, .int .i64 0], sh31, hb_5.row, rfl⟩⟩, trivial⟩ ?_
       have he : rowM l o = (l.take (l.length - 1), ⟨0, x, 0⟩) := (by rw [rowM, if_neg n11, if_neg (by omega), if_neg n39, if_neg (by omega), if_pos k64, hxd])
       rw [he]
       exact ⟨S, a, c, M, by rw [show (l.take (l.length - 1)).length = l.length - 1 from by rw [List.length_take]; omega]; rfl, by rw [List.length_take]; omega, (hF.sub S).imp (fun u h => slTakeM h _), Up.refl _ _⟩
      ·
       have n64 := h54
       refine RC.skip (RC.back (RC.seq ?_));refine RC.drawD (fun k => k = b_5) [7] w_5.heap.size 8 rfl rfl mxo (fun w58 s59 => ?_)
       have hNN : ∀ k, ((k = b_5) ∨ w_5.heap.size ≤ k) → w.heap.size ≤ k := fun k e => e.elim (fun e => e ▸ ge_5) (fun e => Nat.le_trans S.size e)
       have hN0 : ∀ k, w_5.heap.size ≤ k → w.heap.size ≤ k := fun k e => Nat.le_trans S.size e
       have S := S.trans s59;have hb_5 := hb_5.sub s59;refine RD.tS 0 rfl (fun w' s' => .move rfl) ?_;refine RD.tS 1 rfl (fun w' s' => .sliceLo sl23 rfl rfl (by omega)) ?_;refine RD.tS 2 rfl (fun w' s' => .move rfl) ?_;refine RD.tS 3 rfl (fun w' s' => .indexS sl23 rfl rfl (by omega) (hl.is (i := 0) (by simp only [List.length_map, List.length_cons, List.length_nil]; omega))) ?_;refine RD.tS 4 rfl (fun w' s' => .load1 sh2 rfl ((hl.sub (S.agrN s' hNN)).one (enc := i6) (i := 0) hy)) ?_;refine RD.tS 5 rfl (fun w' s' => .buildS ze31 pl31 rfl rfl) ?_;refine RD.tS 6 rfl (fun w' s' => .assign rfl) ?_;refine RD.oneS 7 rfl ?_;refine RL.stS sh31 rfl rfl rfl hb_5 (fun w60 z60 hb_5 a60 => ?_);have S := S.upd a60 ge_5
       have hb_5 : Has w60 b_5 ([.int .i64 0, .int .i64 y, .int .i64 0]) _ := hb_5.now (by kernel_rfl)
       refine RD.backW rfl (a60.mono fun k _ e => e ▸ (.inl (rfl))) ?_;refine RD.done (by kernel_rfl) (RC.back ?_);refine RC.done (rs := [.tmp 4, .cell 5 31]) (vs := [_, _]) rfl rfl ⟨rfl, ⟨_, rfl, .inr ⟨[.int .i64 0, .int .i64 y, .int .i64 0], sh31, hb_5.row, rfl⟩⟩, trivial⟩ ?_
       have he : rowM l o = (l.drop 1, ⟨0, y, 0⟩) := (by rw [rowM, if_neg n11, if_neg (by omega), if_neg n39, if_neg (by omega), if_neg n64, hyd])
       rw [he]
       exact ⟨S, _, _, M, by rw [List.length_drop]; rfl, by rw [List.length_drop]; show _ ≤ c - 1; omega, (hF.sub S).imp (fun u h => slDropM h 1 hc), Up.refl _ _⟩
def whN (l : List It) (x : It) : Nat := (l.takeWhile fun z => decide (lessP z x)).length
theorem whN_of {x : It} : ∀ {l : List It} {n : Nat}, n ≤ l.length → (∀ k z, k < n → l[k]? = some z → lessP z x) → (∀ z, l[n]? = some z → ¬ lessP z x) → whN l x = n
  | [], n, hn, _, _ => by simp at hn; subst hn; rfl
  | y :: l, 0, _, _, h2 => by
    have := h2 y rfl
    unfold whN
    rw [List.takeWhile_cons, decide_eq_false this]; rfl
  | y :: l, n + 1, hn, h1, h2 => by
    have h0 := h1 0 y (by omega) rfl
    have ih := whN_of (l := l) (n := n) (by simpa using hn) (fun k z hk hz => h1 (k + 1) z (by omega) hz) (fun z hz => h2 z hz)
    unfold whN at ih ⊢
    rw [List.takeWhile_cons, decide_eq_true h0]
    simp only [if_true, List.length_cons, ih]
def heapM (l : List It) (o : OpT) : List It × ResT :=
  if o.kind = 6 then (l, ⟨0, l.length, 0⟩)
  else if o.kind = 2 then
    if 200 ≤ l.length then (l, ⟨5, 0, 0⟩) else (l.take (whN l ⟨o.a, o.b⟩) ++ ⟨o.a, o.b⟩ :: l.drop (whN l ⟨o.a, o.b⟩), ⟨0, 0, 0⟩)
  else if l.length = 0 then (l, ⟨3, 0, 0⟩)
  else (if o.kind = 3 then l.drop 1 else l, ⟨0, (valAt l 0).k, (valAt l 0).v⟩)
def SrtH (l : List It) : Prop := ∀ i x y, l[i]? = some x → l[i + 1]? = some y → ¬ lessP y x
theorem SrtH.le {l : List It} (h : SrtH l) : ∀ (d i : Nat) (x y : It), l[i]? = some x → l[i + d]? = some y → ¬ lessP y x
  | 0, i, x, y, hx, hy => by rw [Nat.add_zero, hx] at hy; cases hy; unfold lessP; omega
  | d + 1, i, x, y, hx, hy => by
    obtain ⟨z, hz⟩ := getSome (l := l) (i := i + d) (by have := lt_of_get hy; omega)
    have h1 := SrtH.le h d i x z hx hz
    have h2 := h (i + d) z y hz hy
    unfold lessP at *
    omega
theorem cmpIt_neg {x y : It} : cmpIt x y < 0 ↔ lessP x y := by
  rcases cmpIt_cases x y with ⟨h, e⟩ | ⟨h, e⟩ | ⟨h, e⟩
  · rw [e]; exact ⟨fun _ => h, fun _ => by decide⟩
  · rw [e]; exact ⟨fun h => absurd h (by decide), fun h2 => by unfold lessP at *; omega⟩
  · subst h; rw [e]; exact ⟨fun h => absurd h (by decide), fun h2 => by unfold lessP at *; omega⟩
theorem c_heap (l : List It) (a : Option Addr) (c m : Nat) (hm : m = l.length) (hs : SrtH l) (hl200 : l.length ≤ 200) (hc : l.length ≤ c) (o : OpT) (hok : okP o) (w : World) (M : Nat → Prop) (hF : Ft M (fun u => Sl u a 2 (l.map It.cells)) w) :
  FC Try.prog 40 [.slice a m c, .agg o.cells.toArray] w (fun u w' => AnsP M w w' (heapM l o) u) := by
 subst hm
 have hl := hF.now
 have hk := hok.1
 have hkk : 1 ≤ o.kind ∧ o.kind ≤ 6 := ⟨hk.2.2.1, hk.2.2.2.1⟩
 refine FC.intro Try.func40 rfl Try.ntmps40 rfl ?_
 have S := Sub.refl w
 refine RC.seq (RC.region rfl ?_);refine RL.box rfl rfl rfl (fun b_3 w_3 e_3 z_3 hb_3 s_3 => ?_);have S := S.trans s_3
 have hb_3 : Has w_3 b_3 ([.int .i64 o.box, .int .i64 o.kind, .int .i64 o.a, .int .i64 o.b]) _ := hb_3
 refine RL.asS rfl ?_;refine RL.alloc ze31 rfl rfl (fun b_5 w_5 e_5 z_5 hb_5 s_5 => ?_);have ge_5 := S.le e_5;have n_3__5 := hb_3.ne e_5;have S := S.trans s_5;have hb_3 := hb_3.sub s_5;refine RL.nil (RC.back (RC.seq (RC.block (RC.seq (RC.region rfl ?_)))));refine RL.eS (.field0 fo27_1 rfl) ?_;refine RL.eS (.load1 sh3 rfl (hb_3.cell rfl)) ?_;refine RL.eS (.bin rfl rfl rfl) ?_;refine RL.asS rfl ?_;refine RL.nil (RC.back ?_);refine RC.cond_dec rfl (fun h1 => ?_) (fun h1 => ?_)
 ·
  have k10 := h1
  refine RC.seq (RC.region rfl ?_);refine RL.mvS rfl ?_;refine RL.mvS rfl ?_;refine RL.eS (.len sl22 rfl) ?_;refine RL.eS (.buildS ze31 pl31 rfl rfl) ?_;refine RL.asS rfl ?_;refine RL.stS sh31 rfl rfl rfl hb_5 (fun w2 z2 hb_5 a2 => ?_);have S := S.upd a2 ge_5;have hb_3 := hb_3.upd a2 n_3__5
  have hb_5 : Has w2 b_5 ([.int .i64 0, .int .i64 (l.length : Int), .int .i64 0]) _ := hb_5.now (by kernel_rfl)
  refine RL.nil (RC.back ?_);refine RC.done (rs := [.tmp 4, .cell 5 31]) (vs := [_, _]) rfl rfl ⟨rfl, ⟨_, rfl, .inr ⟨[.int .i64 0, .int .i64 (l.length : Int), .int .i64 0], sh31, hb_5.row, rfl⟩⟩, trivial⟩ ?_
  have he : heapM l o = (l, ⟨0, l.length, 0⟩) := (by rw [heapM, if_pos k10])
  rw [he]
  exact ⟨S, _, _, M, rfl, hc, hF.sub S, Up.refl _ _⟩
 ·
  have n10 := h1
  refine RC.seq (RC.region rfl ?_);refine RL.eS (.field0 fo27_1 rfl) ?_;refine RL.eS (.load1 sh3 rfl (hb_3.cell rfl)) ?_;refine RL.eS (.bin rfl rfl rfl) ?_;refine RL.mvS rfl ?_;refine RL.split 22 rfl (fun h3 => ?_) (fun h3 => ?_)
  ·
   have k22 := h3
   refine RL.mvS rfl ?_;refine RL.eS (.len sl22 rfl) ?_;refine RL.eS (.bin rfl rfl rfl) ?_;refine RL.eS (.pick_t rfl rfl) ?_;refine RL.asS rfl ?_;refine RL.nil (RC.back ?_);refine RC.cond_dec rfl (fun h4 => ?_) (fun h4 => ?_)
   ·
    have k18 : 200 ≤ l.length := (by omega)
    refine RC.seq (RC.region rfl ?_);refine RL.mvS rfl ?_;refine RL.call rfl ok49 (c_full w_5) rfl rfl ?_;rintro _ w5 ⟨rfl, s6⟩;have S := S.trans s6;have hb_3 := hb_3.sub s6;have hb_5 := hb_5.sub s6;refine RL.asS rfl ?_;refine RL.stS sh31 rfl rfl rfl hb_5 (fun w7 z7 hb_5 a7 => ?_);have S := S.upd a7 ge_5;have hb_3 := hb_3.upd a7 n_3__5
    have hb_5 : Has w7 b_5 ([.int .i64 5, .int .i64 0, .int .i64 0]) _ := hb_5.now (by kernel_rfl)
    refine RL.nil (RC.back ?_);refine RC.done (rs := [.tmp 4, .cell 5 31]) (vs := [_, _]) rfl rfl ⟨rfl, ⟨_, rfl, .inr ⟨[.int .i64 5, .int .i64 0, .int .i64 0], sh31, hb_5.row, rfl⟩⟩, trivial⟩ ?_
    have he : heapM l o = (l, ⟨5, 0, 0⟩) := (by rw [heapM, if_neg n10, if_pos k22, if_pos k18])
    rw [he]
    exact ⟨S, _, _, M, rfl, hc, hF.sub S, Up.refl _ _⟩
   ·
    have n18 : ¬ 200 ≤ l.length := (by omega)
    refine RC.seq (RC.region rfl ?_);refine RL.eS (.field0 fo27_1 rfl) ?_;refine RL.eS (.load1 sh3 rfl (hb_3.cell rfl)) ?_;refine RL.eS (.bin rfl rfl rfl) ?_;refine RL.asS rfl ?_;refine RL.nil (RC.back ?_);refine RC.cond_dec rfl (fun h8 => ?_) (fun h8 => ?_)
    ·
     have k29 := h8
     refine RC.seq (RC.region rfl ?_);refine RL.eS (.field0 fo27_2 rfl) ?_;refine RL.eS (.load1 sh2 rfl (hb_3.cell rfl)) ?_;refine RL.eS (.field0 fo27_3 rfl) ?_;refine RL.eS (.load1 sh2 rfl (hb_3.cell rfl)) ?_;refine RL.eS (.buildS ze47 pl47 rfl rfl) ?_;refine RL.alloc ze47 rfl rfl (fun b_6 w_6 e_6 z_6 hb_6 s_6 => ?_);have ge_6 := S.le e_6;have n_3__6 := hb_3.ne e_6;have n_5__6 := hb_5.ne e_6;have S := S.trans s_6;have hb_3 := hb_3.sub s_6;have hb_5 := hb_5.sub s_6;refine RL.stS sh47 rfl rfl rfl hb_6 (fun w9 z9 hb_6 a9 => ?_);have S := S.upd a9 ge_6;have hb_3 := hb_3.upd a9 n_3__6;have hb_5 := hb_5.upd a9 n_5__6
     have hb_6 : Has w9 b_6 ([.int .i64 o.a, .int .i64 o.b]) _ := hb_6.now (by kernel_rfl)
     refine RL.nil (RC.back (RC.seq (RC.region rfl ?_)));refine RL.mvS rfl ?_;refine RL.eS (.loadR ([.int .i64 o.a, .int .i64 o.b]) sh47 rfl hb_6.row rfl) ?_;refine RL.call rfl ok52 (c_bsf2 22 ok22 ⟨o.a, o.b⟩ (fun x => cmpIt x ⟨o.a, o.b⟩) (fun x w' => c_less x ⟨o.a, o.b⟩ w') l (fun i j x y hij hx hy h => by rw [cmpIt_neg] at h ⊢; obtain ⟨d, rfl⟩ := Nat.le.dest hij; have q := hs.le d i x y hx hy; unfold lessP at *; omega) a c _ rfl w9 (hl.sub S) (by omega)) rfl rfl ?_;rintro _ w10 ⟨s11, n, hn1, rfl, hn2, hn3⟩;have S := S.trans s11;have hb_3 := hb_3.sub s11;have hb_5 := hb_5.sub s11;have hb_6 := hb_6.sub s11
     have hwn : whN l ⟨o.a, o.b⟩ = n := whN_of hn1 (fun k z h1 h2 => cmpIt_neg.1 (hn2 k z h1 h2)) (fun z hz h => hn3 n z (Nat.le_refl _) hz (cmpIt_neg.2 h))
     refine RL.mvS rfl ?_;refine RL.eS (.extract rfl rfl) ?_;refine RL.eS (.extract rfl rfl) ?_;refine RL.asS rfl ?_;refine RL.asS rfl ?_;refine RL.nil (RC.back (RC.seq ?_));refine RC.drawD (fun k => k = b_5) [5, 8] w10.heap.size 9 rfl rfl mxo (fun w12 s13 => ?_)
     have hNN : ∀ k, ((k = b_5) ∨ w10.heap.size ≤ k) → w.heap.size ≤ k := fun k e => e.elim (fun e => e ▸ ge_5) (fun e => Nat.le_trans S.size e)
     have hN0 : ∀ k, w10.heap.size ≤ k → w.heap.size ≤ k := fun k e => Nat.le_trans S.size e
     have ltD_b_6 := hb_6.lt;have szD := Nat.le_refl w10.heap.size;have S := S.trans s13;have hb_3 := hb_3.sub s13;have hb_5 := hb_5.sub s13;have hb_6 := hb_6.sub s13;have szD := Nat.le_trans szD s13.size;refine RD.tS 0 rfl (fun w' s' => .move rfl) ?_;refine RD.tS 2 rfl (fun w' s' => .move rfl) ?_;refine RD.tS 3 rfl (fun w' s' => .loadR ([.int .i64 o.a, .int .i64 o.b]) sh47 rfl (hb_6.step s' (fun e => e.elim (fun e => n_5__6.symm e) (fun e => Nat.not_le.2 ltD_b_6 e))).row rfl) ?_;refine RD.tS 6 rfl (fun w' s' => .buildS ze31 pl31 rfl rfl) ?_;refine RD.all [1, 4] (by kernel_rfl) rfl (RDs.cons rfl ?_ (RDs.cons rfl ?_ (RDs.nil)))
     ·
      refine RL.call rfl ok48 (c_clone l a c _ rfl w12 (hl.sub S) (by omega)) rfl rfl ?_;rintro _ w14 ⟨a84, c84, rfl, o84, s15⟩
      have lt3 := hb_3.lt
      have lt5 := hb_5.lt
      have lt6 := hb_6.lt
      have szS := S.size;have szD84 := szD;have szB84 := s15.size;have S := S.trans s15;have hb_3 := hb_3.sub s15;have hb_5 := hb_5.sub s15;have hb_6 := hb_6.sub s15;have szD := Nat.le_trans szD s15.size
      have d84_3 : ∀ k, ob (.slice a84 l.length c84) = some k → k ≠ b_3 := (fun k hk e => by have := (o84.ge k hk).1; omega)
      have d84_5 : ∀ k, ob (.slice a84 l.length c84) = some k → k ≠ b_5 := (fun k hk e => by have := (o84.ge k hk).1; omega)
      have d84_6 : ∀ k, ob (.slice a84 l.length c84) = some k → k ≠ b_6 := (fun k hk e => by have := (o84.ge k hk).1; omega)
      have o84w := o84.whole
      refine RD.back s15.agr ?_;refine RD.oneS 4 rfl ?_;refine RL.buildSlice1 sl22 _ ze47 rfl rfl rfl rfl rfl rfl rfl (fun b_48 w_48 e_48 z_48 hb_48 s_48 => ?_)
      have fr_b_48 : w10.heap.size ≤ b_48 := by rw [e_48]; exact szD
      have d_o84_b_48 := o84.neNew e_48;have S := S.trans s_48;have hb_3 := hb_3.sub s_48;have hb_5 := hb_5.sub s_48;have hb_6 := hb_6.sub s_48;have szD := Nat.le_trans szD s_48.size;have szB84 := Nat.le_trans szB84 s_48.size;have o84 := o84.sub s_48;refine RD.back s_48.agr ?_;refine RD.oneS 5 rfl ?_;refine RL.call rfl ok50 (c_insert l ⟨o.a, o.b⟩ _ a84 c84 b_48 n w_48 o84 szB84 (by rcases o84w with ⟨q, _⟩ | ⟨g, ex, q, _, _, _, q2⟩; injection q with _ _ q; omega; injection q with _ _ q; rw [q]; exact Nat.le_trans q2 (by decide)) (by omega) hn1 hb_48 (by first | exact d_o84_b_48 | exact (fun k hk e => by have := (o84.ge k hk).1; omega))) rfl rfl ?_;rintro _ w16 ⟨a88', c88', M88, rfl, hc88, hF88, hM88, a49⟩
      have S := S.agrN a49 (fun k e => Nat.le_trans szS (o84.ge k e).1)
      have hb_3 := hb_3.step a49 (fun e => d84_3 _ e rfl);have hb_5 := hb_5.step a49 (fun e => d84_5 _ e rfl);have hb_6 := hb_6.step a49 (fun e => d84_6 _ e rfl);have szD := Nat.le_trans szD a49.size
      have d88_5 : ∀ k, M88 k → k ≠ b_5 := (fun k hk e => by have := hM88 k hk; omega)
      have d88_3 : ∀ k, M88 k → k ≠ b_3 := (fun k hk e => by have := hM88 k hk; omega)
      have d88_6 : ∀ k, M88 k → k ≠ b_6 := (fun k hk e => by have := hM88 k hk; omega)
      refine RD.backW rfl (a49.mono fun k _ e => .inr (Nat.le_trans szD84 (o84.ge k e).1)) ?_;refine RD.tS 7 rfl (fun w' s' => .assign rfl) ?_;refine RD.oneS 8 rfl ?_;refine RL.stS sh31 rfl rfl rfl hb_5 (fun w18 z18 hb_5 a18 => ?_);have S := S.upd a18 ge_5;have hb_3 := hb_3.upd a18 n_3__5;have hb_6 := hb_6.upd a18 n_5__6.symm;have szD := Nat.le_trans szD a18.size;have hF88 := hF88.updD a18 d88_5
      have hb_5 : Has w18 b_5 ([.int .i64 0, .int .i64 0, .int .i64 0]) _ := hb_5.now (by kernel_rfl)
      refine RD.backW rfl (a18.mono fun k _ e => e ▸ (.inl (rfl))) ?_;refine RD.done (by kernel_rfl) (RC.back ?_);refine RC.done (rs := [.tmp 4, .cell 5 31]) (vs := [_, _]) rfl rfl ⟨rfl, ⟨_, rfl, .inr ⟨[.int .i64 0, .int .i64 0, .int .i64 0], sh31, hb_5.row, rfl⟩⟩, trivial⟩ ?_
      have he : heapM l o = (l.take n ++ ⟨o.a, o.b⟩ :: l.drop n, ⟨0, 0, 0⟩) := (by rw [heapM, if_neg n10, if_pos k22, if_neg n18, hwn])
      rw [he]
      exact ⟨S, _, _, M88, by rw [show (l.take n ++ (⟨o.a, o.b⟩ : It) :: l.drop n).length = l.length + 1 from by rw [List.length_append, List.length_cons, List.length_take, List.length_drop]; omega]; rfl, by rw [show (l.take n ++ (⟨o.a, o.b⟩ : It) :: l.drop n).length = l.length + 1 from by rw [List.length_append, List.length_cons, List.length_take, List.length_drop]; omega]; exact hc88, hF88, fun k hk => .inr (Nat.le_trans szS (hM88 k hk))⟩
     ·
      refine RL.buildSlice1 sl22 _ ze47 rfl rfl rfl rfl rfl rfl rfl (fun b_48 w_48 e_48 z_48 hb_48 s_48 => ?_)
      have fr_b_48 : w10.heap.size ≤ b_48 := by rw [e_48]; exact szD
      have S := S.trans s_48;have hb_3 := hb_3.sub s_48;have hb_5 := hb_5.sub s_48;have hb_6 := hb_6.sub s_48;have szD := Nat.le_trans szD s_48.size;refine RD.back s_48.agr ?_;refine RD.oneS 1 rfl ?_;refine RL.call rfl ok48 (c_clone l a c _ rfl w_48 (hl.sub S) (by omega)) rfl rfl ?_;rintro _ w19 ⟨a84, c84, rfl, o84, s20⟩
      have lt3 := hb_3.lt
      have lt5 := hb_5.lt
      have lt6 := hb_6.lt
      have szS := S.size;have szD84 := szD;have szB84 := s20.size;have S := S.trans s20;have hb_3 := hb_3.sub s20;have hb_5 := hb_5.sub s20;have hb_6 := hb_6.sub s20;have szD := Nat.le_trans szD s20.size;have hb_48 := hb_48.sub s20
      have d84_3 : ∀ k, ob (.slice a84 l.length c84) = some k → k ≠ b_3 := (fun k hk e => by have := (o84.ge k hk).1; omega)
      have d84_5 : ∀ k, ob (.slice a84 l.length c84) = some k → k ≠ b_5 := (fun k hk e => by have := (o84.ge k hk).1; omega)
      have d84_6 : ∀ k, ob (.slice a84 l.length c84) = some k → k ≠ b_6 := (fun k hk e => by have := (o84.ge k hk).1; omega)
      have o84w := o84.whole
      refine RD.back s20.agr ?_;refine RD.oneS 5 rfl ?_;refine RL.call rfl ok50 (c_insert l ⟨o.a, o.b⟩ _ a84 c84 b_48 n w19 o84 szB84 (by rcases o84w with ⟨q, _⟩ | ⟨g, ex, q, _, _, _, q2⟩; injection q with _ _ q; omega; injection q with _ _ q; rw [q]; exact Nat.le_trans q2 (by decide)) (by omega) hn1 hb_48 (by first | exact d_o84_b_48 | exact (fun k hk e => by have := (o84.ge k hk).1; omega))) rfl rfl ?_;rintro _ w21 ⟨a88', c88', M88, rfl, hc88, hF88, hM88, a49⟩
      have S := S.agrN a49 (fun k e => Nat.le_trans szS (o84.ge k e).1)
      have hb_3 := hb_3.step a49 (fun e => d84_3 _ e rfl);have hb_5 := hb_5.step a49 (fun e => d84_5 _ e rfl);have hb_6 := hb_6.step a49 (fun e => d84_6 _ e rfl);have szD := Nat.le_trans szD a49.size
      have d88_5 : ∀ k, M88 k → k ≠ b_5 := (fun k hk e => by have := hM88 k hk; omega)
      have d88_3 : ∀ k, M88 k → k ≠ b_3 := (fun k hk e => by have := hM88 k hk; omega)
      have d88_6 : ∀ k, M88 k → k ≠ b_6 := (fun k hk e => by have := hM88 k hk; omega)
      refine RD.backW rfl (a49.mono fun k _ e => .inr (Nat.le_trans szD84 (o84.ge k e).1)) ?_;refine RD.tS 7 rfl (fun w' s' => .assign rfl) ?_;refine RD.oneS 8 rfl ?_;refine RL.stS sh31 rfl rfl rfl hb_5 (fun w23 z23 hb_5 a23 => ?_);have S := S.upd a23 ge_5;have hb_3 := hb_3.upd a23 n_3__5;have hb_6 := hb_6.upd a23 n_5__6.symm;have szD := Nat.le_trans szD a23.size;have hF88 := hF88.updD a23 d88_5
      have hb_5 : Has w23 b_5 ([.int .i64 0, .int .i64 0, .int .i64 0]) _ := hb_5.now (by kernel_rfl)
      refine RD.backW rfl (a23.mono fun k _ e => e ▸ (.inl (rfl))) ?_;refine RD.done (by kernel_rfl) (RC.back ?_);refine RC.done (rs := [.tmp 4, .cell 5 31]) (vs := [_, _]) rfl rfl ⟨rfl, ⟨_, rfl, .inr ⟨[.int .i64 0, .int .i64 0, .int .i64 0], sh31, hb_5.row, rfl⟩⟩, trivial⟩ ?_
      have he : heapM l o = (l.take n ++ ⟨o.a, o.b⟩ :: l.drop n, ⟨0, 0, 0⟩) := (by rw [heapM, if_neg n10, if_pos k22, if_neg n18, hwn])
      rw [he]
      exact ⟨S, _, _, M88, by rw [show (l.take n ++ (⟨o.a, o.b⟩ : It) :: l.drop n).length = l.length + 1 from by rw [List.length_append, List.length_cons, List.length_take, List.length_drop]; omega]; rfl, by rw [show (l.take n ++ (⟨o.a, o.b⟩ : It) :: l.drop n).length = l.length + 1 from by rw [List.length_append, List.length_cons, List.length_take, List.length_drop]; omega]; exact hc88, hF88, fun k hk => .inr (Nat.le_trans szS (hM88 k hk))⟩
    ·
     have n29 := h8
     refine RC.seq (RC.region rfl ?_);refine RL.mvS rfl ?_;refine RL.eS (.len sl22 rfl) ?_;refine RL.eS (.bin rfl rfl rfl) ?_;refine RL.asS rfl ?_;refine RL.nil (RC.back ?_);refine RC.cond_dec rfl (fun h24 => ?_) (fun h24 => ?_)
     ·
      have k51 : l.length = 0 := (by omega)
      refine RC.seq (RC.region rfl ?_);refine RL.mvS rfl ?_;refine RL.call rfl ok46 (c_none w_5) rfl rfl ?_;rintro _ w25 ⟨rfl, s26⟩;have S := S.trans s26;have hb_3 := hb_3.sub s26;have hb_5 := hb_5.sub s26;refine RL.asS rfl ?_;refine RL.stS sh31 rfl rfl rfl hb_5 (fun w27 z27 hb_5 a27 => ?_);have S := S.upd a27 ge_5;have hb_3 := hb_3.upd a27 n_3__5
      have hb_5 : Has w27 b_5 ([.int .i64 3, .int .i64 0, .int .i64 0]) _ := hb_5.now (by kernel_rfl)
      refine RL.nil (RC.back ?_);refine RC.done (rs := [.tmp 4, .cell 5 31]) (vs := [_, _]) rfl rfl ⟨rfl, ⟨_, rfl, .inr ⟨[.int .i64 3, .int .i64 0, .int .i64 0], sh31, hb_5.row, rfl⟩⟩, trivial⟩ ?_
      exact absurd k22 n29
     ·
      have n51 : 0 < l.length := (by omega)
      obtain ⟨y, hy⟩ := getSome (l := l) (i := 0) n51
      have hva := valAt_get hy
      refine RC.skip (RC.back (RC.seq ?_));refine RC.drawD (fun k => False) [10] w_5.heap.size 11 rfl rfl mxo (fun w28 s29 => ?_)
      have hNN : ∀ k, ((False) ∨ w_5.heap.size ≤ k) → w.heap.size ≤ k := fun k e => e.elim (fun e => e.elim) (fun e => Nat.le_trans S.size e)
      have hN0 : ∀ k, w_5.heap.size ≤ k → w.heap.size ≤ k := fun k e => Nat.le_trans S.size e
      have szD := Nat.le_refl w_5.heap.size;have S := S.trans s29;have hb_3 := hb_3.sub s29;have hb_5 := hb_5.sub s29;have szD := Nat.le_trans szD s29.size;refine RD.tS 0 rfl (fun w' s' => .move rfl) ?_;refine RD.tS 1 rfl (fun w' s' => .indexS sl22 rfl rfl (by omega) (hl.is (i := 0) (by simp only [List.length_map, List.length_cons, List.length_nil]; omega))) ?_;refine RD.tS 2 rfl (fun w' s' => .fieldA fo47_0 rfl) ?_;refine RD.tS 3 rfl (fun w' s' => .load1 sh2 rfl ((hl.sub (S.agrN s' hNN)).cell (enc := It.cells) (i := 0) (j := 0) hy rfl)) ?_;refine RD.tS 4 rfl (fun w' s' => .move rfl) ?_;refine RD.tS 5 rfl (fun w' s' => .indexS sl22 rfl rfl (by omega) (hl.is (i := 0) (by simp only [List.length_map, List.length_cons, List.length_nil]; omega))) ?_;refine RD.tS 6 rfl (fun w' s' => .fieldA fo47_1 rfl) ?_;refine RD.tS 7 rfl (fun w' s' => .load1 sh2 rfl ((hl.sub (S.agrN s' hNN)).cell (enc := It.cells) (i := 0) (j := 1) hy rfl)) ?_;refine RD.tS 8 rfl (fun w' s' => .buildS ze31 pl31 rfl rfl) ?_;refine RD.oneS 9 rfl ?_;refine RL.alloc ze31 rfl rfl (fun b_9 w_9 e_9 z_9 hb_9 s_9 => ?_)
      have fr_b_9 : w_5.heap.size ≤ b_9 := by rw [e_9]; exact szD
      have ge_9 := S.le e_9;have n_3__9 := hb_3.ne e_9;have n_5__9 := hb_5.ne e_9;have S := S.trans s_9;have hb_3 := hb_3.sub s_9;have hb_5 := hb_5.sub s_9;have szD := Nat.le_trans szD s_9.size;refine RD.back s_9.agr ?_;refine RD.oneS 10 rfl ?_;refine RL.stS sh31 rfl rfl rfl hb_9 (fun w30 z30 hb_9 a30 => ?_);have S := S.upd a30 ge_9;have hb_3 := hb_3.upd a30 n_3__9;have hb_5 := hb_5.upd a30 n_5__9;have szD := Nat.le_trans szD a30.size
      have hb_9 : Has w30 b_9 ([.int .i64 0, .int .i64 y.k, .int .i64 y.v]) _ := hb_9.now (by kernel_rfl)
      refine RD.backW rfl (a30.mono fun k _ e => e ▸ (.inr fr_b_9)) ?_;refine RD.done (by kernel_rfl) (RC.back ?_);refine RC.seq (RC.seq (RC.region rfl ?_));refine RL.eS (.field0 fo27_1 rfl) ?_;refine RL.eS (.load1 sh3 rfl (hb_3.cell rfl)) ?_;refine RL.eS (.bin rfl rfl rfl) ?_;refine RL.nil (RC.back ?_);refine RC.cond_dec rfl (fun h31 => ?_) (fun h31 => ?_)
      ·
       have k68 := h31
       refine RC.region rfl ?_;refine RL.mvS rfl ?_;refine RL.eS (.sliceLo sl22 rfl rfl (by omega)) ?_;refine RL.asS rfl ?_;refine RL.nil (RC.back (RC.seq ?_));refine RC.drawD (fun k => k = b_5) [3] w30.heap.size 4 rfl rfl mxo (fun w32 s33 => ?_)
       have hNN : ∀ k, ((k = b_5) ∨ w30.heap.size ≤ k) → w.heap.size ≤ k := fun k e => e.elim (fun e => e ▸ ge_5) (fun e => Nat.le_trans S.size e)
       have hN0 : ∀ k, w30.heap.size ≤ k → w.heap.size ≤ k := fun k e => Nat.le_trans S.size e
       have ltD_b_9 := hb_9.lt;have szD := Nat.le_refl w30.heap.size;have S := S.trans s33;have hb_3 := hb_3.sub s33;have hb_5 := hb_5.sub s33;have hb_9 := hb_9.sub s33;have szD := Nat.le_trans szD s33.size;refine RD.tS 0 rfl (fun w' s' => .move rfl) ?_;refine RD.tS 1 rfl (fun w' s' => .loadR ([.int .i64 0, .int .i64 y.k, .int .i64 y.v]) sh31 rfl (hb_9.step s' (fun e => e.elim (fun e => n_5__9.symm e) (fun e => Nat.not_le.2 ltD_b_9 e))).row rfl) ?_;refine RD.tS 2 rfl (fun w' s' => .assign rfl) ?_;refine RD.oneS 3 rfl ?_;refine RL.stS sh31 rfl rfl rfl hb_5 (fun w34 z34 hb_5 a34 => ?_);have S := S.upd a34 ge_5;have hb_3 := hb_3.upd a34 n_3__5;have hb_9 := hb_9.upd a34 n_5__9.symm;have szD := Nat.le_trans szD a34.size
       have hb_5 : Has w34 b_5 ([.int .i64 0, .int .i64 y.k, .int .i64 y.v]) _ := hb_5.now (by kernel_rfl)
       refine RD.backW rfl (a34.mono fun k _ e => e ▸ (.inl (rfl))) ?_;refine RD.done (by kernel_rfl) (RC.back ?_);refine RC.done (rs := [.tmp 4, .cell 5 31]) (vs := [_, _]) rfl rfl ⟨rfl, ⟨_, rfl, .inr ⟨[.int .i64 0, .int .i64 y.k, .int .i64 y.v], sh31, hb_5.row, rfl⟩⟩, trivial⟩ ?_
       exact absurd k22 n29
      ·
       have n68 := h31
       refine RC.skip (RC.back (RC.seq ?_));refine RC.drawD (fun k => k = b_5) [3] w30.heap.size 4 rfl rfl mxo (fun w35 s36 => ?_)
       have hNN : ∀ k, ((k = b_5) ∨ w30.heap.size ≤ k) → w.heap.size ≤ k := fun k e => e.elim (fun e => e ▸ ge_5) (fun e => Nat.le_trans S.size e)
       have hN0 : ∀ k, w30.heap.size ≤ k → w.heap.size ≤ k := fun k e => Nat.le_trans S.size e
       have ltD_b_9 := hb_9.lt;have szD := Nat.le_refl w30.heap.size;have S := S.trans s36;have hb_3 := hb_3.sub s36;have hb_5 := hb_5.sub s36;have hb_9 := hb_9.sub s36;have szD := Nat.le_trans szD s36.size;refine RD.tS 0 rfl (fun w' s' => .move rfl) ?_;refine RD.tS 1 rfl (fun w' s' => .loadR ([.int .i64 0, .int .i64 y.k, .int .i64 y.v]) sh31 rfl (hb_9.step s' (fun e => e.elim (fun e => n_5__9.symm e) (fun e => Nat.not_le.2 ltD_b_9 e))).row rfl) ?_;refine RD.tS 2 rfl (fun w' s' => .assign rfl) ?_;refine RD.oneS 3 rfl ?_;refine RL.stS sh31 rfl rfl rfl hb_5 (fun w37 z37 hb_5 a37 => ?_);have S := S.upd a37 ge_5;have hb_3 := hb_3.upd a37 n_3__5;have hb_9 := hb_9.upd a37 n_5__9.symm;have szD := Nat.le_trans szD a37.size
       have hb_5 : Has w37 b_5 ([.int .i64 0, .int .i64 y.k, .int .i64 y.v]) _ := hb_5.now (by kernel_rfl)
       refine RD.backW rfl (a37.mono fun k _ e => e ▸ (.inl (rfl))) ?_;refine RD.done (by kernel_rfl) (RC.back ?_);refine RC.done (rs := [.tmp 4, .cell 5 31]) (vs := [_, _]) rfl rfl ⟨rfl, ⟨_, rfl, .inr ⟨[.int .i64 0, .int .i64 y.k, .int .i64 y.v], sh31, hb_5.row, rfl⟩⟩, trivial⟩ ?_
       exact absurd k22 n29
  ·
   have n22 := h3
   refine RL.offs 3 rfl ?_;refine RL.eS (.pick_f rfl rfl) ?_;refine RL.asS rfl ?_;refine RL.nil (RC.back ?_);refine RC.cond_f rfl ?_;refine RC.seq (RC.region rfl ?_);refine RL.eS (.field0 fo27_1 rfl) ?_;refine RL.eS (.load1 sh3 rfl (hb_3.cell rfl)) ?_;refine RL.eS (.bin rfl rfl rfl) ?_;refine RL.asS rfl ?_;refine RL.nil (RC.back ?_);refine RC.cond_dec rfl (fun h38 => ?_) (fun h38 => ?_)
   ·
    have k29 := h38
    refine RC.seq (RC.region rfl ?_);refine RL.eS (.field0 fo27_2 rfl) ?_;refine RL.eS (.load1 sh2 rfl (hb_3.cell rfl)) ?_;refine RL.eS (.field0 fo27_3 rfl) ?_;refine RL.eS (.load1 sh2 rfl (hb_3.cell rfl)) ?_;refine RL.eS (.buildS ze47 pl47 rfl rfl) ?_;refine RL.alloc ze47 rfl rfl (fun b_6 w_6 e_6 z_6 hb_6 s_6 => ?_);have ge_6 := S.le e_6;have n_3__6 := hb_3.ne e_6;have n_5__6 := hb_5.ne e_6;have S := S.trans s_6;have hb_3 := hb_3.sub s_6;have hb_5 := hb_5.sub s_6;refine RL.stS sh47 rfl rfl rfl hb_6 (fun w39 z39 hb_6 a39 => ?_);have S := S.upd a39 ge_6;have hb_3 := hb_3.upd a39 n_3__6;have hb_5 := hb_5.upd a39 n_5__6
    have hb_6 : Has w39 b_6 ([.int .i64 o.a, .int .i64 o.b]) _ := hb_6.now (by kernel_rfl)
    refine RL.nil (RC.back (RC.seq (RC.region rfl ?_)));refine RL.mvS rfl ?_;refine RL.eS (.loadR ([.int .i64 o.a, .int .i64 o.b]) sh47 rfl hb_6.row rfl) ?_;refine RL.call rfl ok52 (c_bsf2 22 ok22 ⟨o.a, o.b⟩ (fun x => cmpIt x ⟨o.a, o.b⟩) (fun x w' => c_less x ⟨o.a, o.b⟩ w') l (fun i j x y hij hx hy h => by rw [cmpIt_neg] at h ⊢; obtain ⟨d, rfl⟩ := Nat.le.dest hij; have q := hs.le d i x y hx hy; unfold lessP at *; omega) a c _ rfl w39 (hl.sub S) (by omega)) rfl rfl ?_;rintro _ w40 ⟨s41, n, hn1, rfl, hn2, hn3⟩;have S := S.trans s41;have hb_3 := hb_3.sub s41;have hb_5 := hb_5.sub s41;have hb_6 := hb_6.sub s41
    have hwn : whN l ⟨o.a, o.b⟩ = n := whN_of hn1 (fun k z h1 h2 => cmpIt_neg.1 (hn2 k z h1 h2)) (fun z hz h => hn3 n z (Nat.le_refl _) hz (cmpIt_neg.2 h))
    refine RL.mvS rfl ?_;refine RL.eS (.extract rfl rfl) ?_;refine RL.eS (.extract rfl rfl) ?_;refine RL.asS rfl ?_;refine RL.asS rfl ?_;refine RL.nil (RC.back (RC.seq ?_));refine RC.drawD (fun k => k = b_5) [5, 8] w40.heap.size 9 rfl rfl mxo (fun w42 s43 => ?_)
    have hNN : ∀ k, ((k = b_5) ∨ w40.heap.size ≤ k) → w.heap.size ≤ k := fun k e => e.elim (fun e => e ▸ ge_5) (fun e => Nat.le_trans S.size e)
    have hN0 : ∀ k, w40.heap.size ≤ k → w.heap.size ≤ k := fun k e => Nat.le_trans S.size e
    have ltD_b_6 := hb_6.lt;have szD := Nat.le_refl w40.heap.size;have S := S.trans s43;have hb_3 := hb_3.sub s43;have hb_5 := hb_5.sub s43;have hb_6 := hb_6.sub s43;have szD := Nat.le_trans szD s43.size;refine RD.tS 0 rfl (fun w' s' => .move rfl) ?_;refine RD.tS 2 rfl (fun w' s' => .move rfl) ?_;refine RD.tS 3 rfl (fun w' s' => .loadR ([.int .i64 o.a, .int .i64 o.b]) sh47 rfl (hb_6.step s' (fun e => e.elim (fun e => n_5__6.symm e) (fun e => Nat.not_le.2 ltD_b_6 e))).row rfl) ?_;refine RD.tS 6 rfl (fun w' s' => .buildS ze31 pl31 rfl rfl) ?_;refine RD.all [1, 4] (by kernel_rfl) rfl (RDs.cons rfl ?_ (RDs.cons rfl ?_ (RDs.nil)))
    ·
     refine RL.call rfl ok48 (c_clone l a c _ rfl w42 (hl.sub S) (by omega)) rfl rfl ?_;rintro _ w44 ⟨a84, c84, rfl, o84, s45⟩
     have lt3 := hb_3.lt
     have lt5 := hb_5.lt
     have lt6 := hb_6.lt
     have szS := S.size;have szD84 := szD;have szB84 := s45.size;have S := S.trans s45;have hb_3 := hb_3.sub s45;have hb_5 := hb_5.sub s45;have hb_6 := hb_6.sub s45;have szD := Nat.le_trans szD s45.size
     have d84_3 : ∀ k, ob (.slice a84 l.length c84) = some k → k ≠ b_3 := (fun k hk e => by have := (o84.ge k hk).1; omega)
     have d84_5 : ∀ k, ob (.slice a84 l.length c84) = some k → k ≠ b_5 := (fun k hk e => by have := (o84.ge k hk).1; omega)
     have d84_6 : ∀ k, ob (.slice a84 l.length c84) = some k → k ≠ b_6 := (fun k hk e => by have := (o84.ge k hk).1; omega)
     have o84w := o84.whole
     refine RD.back s45.agr ?_;refine RD.oneS 4 rfl ?_;refine RL.buildSlice1 sl22 _ ze47 rfl rfl rfl rfl rfl rfl rfl (fun b_48 w_48 e_48 z_48 hb_48 s_48 => ?_)
     have fr_b_48 : w40.heap.size ≤ b_48 := by rw [e_48]; exact szD
     have d_o84_b_48 := o84.neNew e_48;have S := S.trans s_48;have hb_3 := hb_3.sub s_48;have hb_5 := hb_5.sub s_48;have hb_6 := hb_6.sub s_48;have szD := Nat.le_trans szD s_48.size;have szB84 := Nat.le_trans szB84 s_48.size;have o84 := o84.sub s_48;refine RD.back s_48.agr ?_;refine RD.oneS 5 rfl ?_;refine RL.call rfl ok50 (c_insert l ⟨o.a, o.b⟩ _ a84 c84 b_48 n w_48 o84 szB84 (by rcases o84w with ⟨q, _⟩ | ⟨g, ex, q, _, _, _, q2⟩; injection q with _ _ q; omega; injection q with _ _ q; rw [q]; exact Nat.le_trans q2 (by decide)) (by omega) hn1 hb_48 (by first | exact d_o84_b_48 | exact (fun k hk e => by have := (o84.ge k hk).1; omega))) rfl rfl ?_;rintro _ w46 ⟨a88', c88', M88, rfl, hc88, hF88, hM88, a49⟩
     have S := S.agrN a49 (fun k e => Nat.le_trans szS (o84.ge k e).1)
     have hb_3 := hb_3.step a49 (fun e => d84_3 _ e rfl);have hb_5 := hb_5.step a49 (fun e => d84_5 _ e rfl);have hb_6 := hb_6.step a49 (fun e => d84_6 _ e rfl);have szD := Nat.le_trans szD a49.size
     have d88_5 : ∀ k, M88 k → k ≠ b_5 := (fun k hk e => by have := hM88 k hk; omega)
     have d88_3 : ∀ k, M88 k → k ≠ b_3 := (fun k hk e => by have := hM88 k hk; omega)
     have d88_6 : ∀ k, M88 k → k ≠ b_6 := (fun k hk e => by have := hM88 k hk; omega)
     refine RD.backW rfl (a49.mono fun k _ e => .inr (Nat.le_trans szD84 (o84.ge k e).1)) ?_;refine RD.tS 7 rfl (fun w' s' => .assign rfl) ?_;refine RD.oneS 8 rfl ?_;refine RL.stS sh31 rfl rfl rfl hb_5 (fun w48 z48 hb_5 a48 => ?_);have S := S.upd a48 ge_5;have hb_3 := hb_3.upd a48 n_3__5;have hb_6 := hb_6.upd a48 n_5__6.symm;have szD := Nat.le_trans szD a48.size;have hF88 := hF88.updD a48 d88_5
     have hb_5 : Has w48 b_5 ([.int .i64 0, .int .i64 0, .int .i64 0]) _ := hb_5.now (by kernel_rfl)
     refine RD.backW rfl (a48.mono fun k _ e => e ▸ (.inl (rfl))) ?_;refine RD.done (by kernel_rfl) (RC.back ?_);refine RC.done (rs := [.tmp 4, .cell 5 31]) (vs := [_, _]) rfl rfl ⟨rfl, ⟨_, rfl, .inr ⟨[.int .i64 0, .int .i64 0, .int .i64 0], sh31, hb_5.row, rfl⟩⟩, trivial⟩ ?_
     exact absurd k29 n22
    ·
     refine RL.buildSlice1 sl22 _ ze47 rfl rfl rfl rfl rfl rfl rfl (fun b_48 w_48 e_48 z_48 hb_48 s_48 => ?_)
     have fr_b_48 : w40.heap.size ≤ b_48 := by rw [e_48]; exact szD
     have S := S.trans s_48;have hb_3 := hb_3.sub s_48;have hb_5 := hb_5.sub s_48;have hb_6 := hb_6.sub s_48;have szD := Nat.le_trans szD s_48.size;refine RD.back s_48.agr ?_;refine RD.oneS 1 rfl ?_;refine RL.call rfl ok48 (c_clone l a c _ rfl w_48 (hl.sub S) (by omega)) rfl rfl ?_;rintro _ w49 ⟨a84, c84, rfl, o84, s50⟩
     have lt3 := hb_3.lt
     have lt5 := hb_5.lt
     have lt6 := hb_6.lt
     have szS := S.size;have szD84 := szD;have szB84 := s50.size;have S := S.trans s50;have hb_3 := hb_3.sub s50;have hb_5 := hb_5.sub s50;have szD := Nat.le_trans szD s50.size;have hb_48 := hb_48.sub s50
     have d84_3 : ∀ k, ob (.slice a84 l.length c84) = some k → k ≠ b_3 := (fun k hk e => by have := (o84.ge k hk).1; omega)
     have d84_5 : ∀ k, ob (.slice a84 l.length c84) = some k → k ≠ b_5 := (fun k hk e => by have := (o84.ge k hk).1; omega)
     have d84_6 : ∀ k, ob (.slice a84 l.length c84) = some k → k ≠ b_6 := (fun k hk e => by have := (o84.ge k hk).1; omega)
     have o84w := o84.whole
     refine RD.back s50.agr ?_;refine RD.oneS 5 rfl ?_;refine RL.call rfl ok50 (c_insert l ⟨o.a, o.b⟩ _ a84 c84 b_48 n w49 o84 szB84 (by rcases o84w with ⟨q, _⟩ | ⟨g, ex, q, _, _, _, q2⟩; injection q with _ _ q; omega; injection q with _ _ q; rw [q]; exact Nat.le_trans q2 (by decide)) (by omega) hn1 hb_48 (by first | exact d_o84_b_48 | exact (fun k hk e => by have := (o84.ge k hk).1; omega))) rfl rfl ?_;rintro _ w51 ⟨a88', c88', M88, rfl, hc88, hF88, hM88, a49⟩
     have S := S.agrN a49 (fun k e => Nat.le_trans szS (o84.ge k e).1)
     have hb_3 := hb_3.step a49 (fun e => d84_3 _ e rfl);have hb_5 := hb_5.step a49 (fun e => d84_5 _ e rfl);have szD := Nat.le_trans szD a49.size
     have d88_5 : ∀ k, M88 k → k ≠ b_5 := (fun k hk e => by have := hM88 k hk; omega)
     have d88_3 : ∀ k, M88 k → k ≠ b_3 := (fun k hk e => by have := hM88 k hk; omega)
     have d88_6 : ∀ k, M88 k → k ≠ b_6 := (fun k hk e => by have := hM88 k hk; omega)
     refine RD.backW rfl (a49.mono fun k _ e => .inr (Nat.le_trans szD84 (o84.ge k e).1)) ?_;refine RD.tS 7 rfl (fun w' s' => .assign rfl) ?_;refine RD.oneS 8 rfl ?_;refine RL.stS sh31 rfl rfl rfl hb_5 (fun w53 z53 hb_5 a53 => ?_);have S := S.upd a53 ge_5;have hb_3 := hb_3.upd a53 n_3__5;have szD := Nat.le_trans szD a53.size
     have hb_5 : Has w53 b_5 ([.int .i64 0, .int .i64 0, .int .i64 0]) _ := hb_5.now (by kernel_rfl)
     refine RD.backW rfl (a53.mono fun k _ e => e ▸ (.inl (rfl))) ?_;refine RD.done (by kernel_rfl) (RC.back ?_);refine RC.done (rs := [.tmp 4, .cell 5 31]) (vs := [_, _]) rfl rfl ⟨rfl, ⟨_, rfl, .inr ⟨[.int .i64 0, .int .i64 0, .int .i64 0], sh31, hb_5.row, rfl⟩⟩, trivial⟩ ?_
     exact absurd k29 n22
   ·
    have n29 := h38
    refine RC.seq (RC.region rfl ?_);refine RL.mvS rfl ?_;refine RL.eS (.len sl22 rfl) ?_;refine RL.eS (.bin rfl rfl rfl) ?_;refine RL.asS rfl ?_;refine RL.nil (RC.back ?_);refine RC.cond_dec rfl (fun h54 => ?_) (fun h54 => ?_)
    ·
     have k51 : l.length = 0 := (by omega)
     refine RC.seq (RC.region rfl ?_);refine RL.mvS rfl ?_;refine RL.call rfl ok46 (c_none w_5) rfl rfl ?_;rintro _ w55 ⟨rfl, s56⟩;have S := S.trans s56;have hb_3 := hb_3.sub s56;have hb_5 := hb_5.sub s56;refine RL.asS rfl ?_;refine RL.stS sh31 rfl rfl rfl hb_5 (fun w57 z57 hb_5 a57 => ?_);have S := S.upd a57 ge_5;have hb_3 := hb_3.upd a57 n_3__5
     have hb_5 : Has w57 b_5 ([.int .i64 3, .int .i64 0, .int .i64 0]) _ := hb_5.now (by kernel_rfl)
     refine RL.nil (RC.back ?_);refine RC.done (rs := [.tmp 4, .cell 5 31]) (vs := [_, _]) rfl rfl ⟨rfl, ⟨_, rfl, .inr ⟨[.int .i64 3, .int .i64 0, .int .i64 0], sh31, hb_5.row, rfl⟩⟩, trivial⟩ ?_
     have he : heapM l o = (l, ⟨3, 0, 0⟩) := (by rw [heapM, if_neg n10, if_neg n22, if_pos k51])
     rw [he]
     exact ⟨S, _, _, M, rfl, hc, hF.sub S, Up.refl _ _⟩
    ·
     have n51 : 0 < l.length := (by omega)
     obtain ⟨y, hy⟩ := getSome (l := l) (i := 0) n51
     have hva := valAt_get hy
     refine RC.skip (RC.back (RC.seq ?_));refine RC.drawD (fun k => False) [10] w_5.heap.size 11 rfl rfl mxo (fun w58 s59 => ?_)
     have hNN : ∀ k, ((False) ∨ w_5.heap.size ≤ k) → w.heap.size ≤ k := fun k e => e.elim (fun e => e.elim) (fun e => Nat.le_trans S.size e)
     have hN0 : ∀ k, w_5.heap.size ≤ k → w.heap.size ≤ k := fun k e => Nat.le_trans S.size e
     have szD := Nat.le_refl w_5.heap.size;have S := S.trans s59;have hb_3 := hb_3.sub s59;have hb_5 := hb_5.sub s59;have szD := Nat.le_trans szD s59.size;refine RD.tS 0 rfl (fun w' s' => .move rfl) ?_;refine RD.tS 1 rfl (fun w' s' => .indexS sl22 rfl rfl (by omega) (hl.is (i := 0) (by simp only [List.length_map, List.length_cons, List.length_nil]; omega))) ?_;refine RD.tS 2 rfl (fun w' s' => .fieldA fo47_0 rfl) ?_;refine RD.tS 3 rfl (fun w' s' => .load1 sh2 rfl ((hl.sub (S.agrN s' hNN)).cell (enc := It.cells) (i := 0) (j := 0) hy rfl)) ?_;refine RD.tS 4 rfl (fun w' s' => .move rfl) ?_;refine RD.tS 5 rfl (fun w' s' => .indexS sl22 rfl rfl (by omega) (hl.is (i := 0) (by simp only [List.length_map, List.length_cons, List.length_nil]; omega))) ?_;refine RD.tS 6 rfl (fun w' s' => .fieldA fo47_1 rfl) ?_;refine RD.tS 7 rfl (fun w' s' => .load1 sh2 rfl ((hl.sub (S.agrN s' hNN)).cell (enc := It.cells) (i := 0) (j := 1) hy rfl)) ?_;refine RD.tS 8 rfl (fun w' s' => .buildS ze31 pl31 rfl rfl) ?_;refine RD.oneS 9 rfl ?_;refine RL.alloc ze31 rfl rfl (fun b_9 w_9 e_9 z_9 hb_9 s_9 => ?_)
     have fr_b_9 : w_5.heap.size ≤ b_9 := by rw [e_9]; exact szD
     have ge_9 := S.le e_9;have n_3__9 := hb_3.ne e_9;have n_5__9 := hb_5.ne e_9;have S := S.trans s_9;have hb_3 := hb_3.sub s_9;have hb_5 := hb_5.sub s_9;refine RD.back s_9.agr ?_;refine RD.oneS 10 rfl ?_;refine RL.stS sh31 rfl rfl rfl hb_9 (fun w60 z60 hb_9 a60 => ?_);have S := S.upd a60 ge_9;have hb_3 := hb_3.upd a60 n_3__9;have hb_5 := hb_5.upd a60 n_5__9
     have hb_9 : Has w60 b_9 ([.int .i64 0, .int .i64 y.k, .int .i64 y.v]) _ := hb_9.now (by kernel_rfl)
     refine RD.backW rfl (a60.mono fun k _ e => e ▸ (.inr fr_b_9)) ?_;refine RD.done (by kernel_rfl) (RC.back ?_);refine RC.seq (RC.seq (RC.region rfl ?_));refine RL.eS (.field0 fo27_1 rfl) ?_;refine RL.eS (.load1 sh3 rfl (hb_3.cell rfl)) ?_;refine RL.eS (.bin rfl rfl rfl) ?_;refine RL.nil (RC.back ?_);refine RC.cond_dec rfl (fun h61 => ?_) (fun h61 => ?_)
     ·
      have k68 := h61
      refine RC.region rfl ?_;refine RL.mvS rfl ?_;refine RL.eS (.sliceLo sl22 rfl rfl (by omega)) ?_;refine RL.asS rfl ?_;refine RL.nil (RC.back (RC.seq ?_));refine RC.drawD (fun k => k = b_5) [3] w60.heap.size 4 rfl rfl mxo (fun w62 s63 => ?_)
      have hNN : ∀ k, ((k = b_5) ∨ w60.heap.size ≤ k) → w.heap.size ≤ k := fun k e => e.elim (fun e => e ▸ ge_5) (fun e => Nat.le_trans S.size e)
      have hN0 : ∀ k, w60.heap.size ≤ k → w.heap.size ≤ k := fun k e => Nat.le_trans S.size e
      have ltD_b_9 := hb_9.lt;have S := S.trans s63;have hb_5 := hb_5.sub s63;have hb_9 := hb_9.sub s63;refine RD.tS 0 rfl (fun w' s' => .move rfl) ?_;refine RD.tS 1 rfl (fun w' s' => .loadR ([.int .i64 0, .int .i64 y.k, .int .i64 y.v]) sh31 rfl (hb_9.step s' (fun e => e.elim (fun e => n_5__9.symm e) (fun e => Nat.not_le.2 ltD_b_9 e))).row rfl) ?_;refine RD.tS 2 rfl (fun w' s' => .assign rfl) ?_;refine RD.oneS 3 rfl ?_;refine RL.stS sh31 rfl rfl rfl hb_5 (fun w64 z64 hb_5 a64 => ?_);have S := S.upd a64 ge_5;have hb_9 := hb_9.upd a64 n_5__9.symm
      have hb_5 : Has w64 b_5 ([.int .i64 0, .int .i64 y.k, .int .i64 y.v]) _ := hb_5.now (by kernel_rfl)
      refine RD.backW rfl (a64.mono fun k _ e => e ▸ (.inl (rfl))) ?_;refine RD.done (by kernel_rfl) (RC.back ?_);refine RC.done (rs := [.tmp 4, .cell 5 31]) (vs := [_, _]) rfl rfl ⟨rfl, ⟨_, rfl, .inr ⟨[.int .i64 0, .int .i64 y.k, .int .i64 y.v], sh31, hb_5.row, rfl⟩⟩, trivial⟩ ?_
      have he : heapM l o = (l.drop 1, ⟨0, y.k, y.v⟩) := (by rw [heapM, if_neg n10, if_neg n22, if_neg (by omega), if_pos k68, hva])
      rw [he]
      exact ⟨S, _, _, M, by rw [List.length_drop]; rfl, by rw [List.length_drop]; show _ ≤ c - 1; omega, (hF.sub S).imp (fun u h => slDropM h 1 hc), Up.refl _ _⟩
     ·
      have n68 := h61
      refine RC.skip (RC.back (RC.seq ?_));refine RC.drawD (fun k => k = b_5) [3] w60.heap.size 4 rfl rfl mxo (fun w65 s66 => ?_)
      have hNN : ∀ k, ((k = b_5) ∨ w60.heap.size ≤ k) → w.heap.size ≤ k := fun k e => e.elim (fun e => e ▸ ge_5) (fun e => Nat.le_trans S.size e)
      have hN0 : ∀ k, w60.heap.size ≤ k → w.heap.size ≤ k := fun k e => Nat.le_trans S.size e
      have ltD_b_9 := hb_9.lt;have S := S.trans s66;have hb_5 := hb_5.sub s66;have hb_9 := hb_9.sub s66;refine RD.tS 0 rfl (fun w' s' => .move rfl) ?_;refine RD.tS 1 rfl (fun w' s' => .loadR ([.int .i64 0, .int .i64 y.k, .int .i64 y.v]) sh31 rfl (hb_9.step s' (fun e => e.elim (fun e => n_5__9.symm e) (fun e => Nat.not_le.2 ltD_b_9 e))).row rfl) ?_;refine RD.tS 2 rfl (fun w' s' => .assign rfl) ?_;refine RD.oneS 3 rfl ?_;refine RL.stS sh31 rfl rfl rfl hb_5 (fun w67 z67 hb_5 a67 => ?_);have S := S.upd a67 ge_5
      have hb_5 : Has w67 b_5 ([.int .i64 0, .int .i64 y.k, .int .i64 y.v]) _ := hb_5.now (by kernel_rfl)
      refine RD.backW rfl (a67.mono fun k _ e => e ▸ (.inl (rfl))) ?_;refine RD.done (by kernel_rfl) (RC.back ?_);refine RC.done (rs := [.tmp 4, .cell 5 31]) (vs := [_, _]) rfl rfl ⟨rfl, ⟨_, rfl, .inr ⟨[.int .i64 0, .int .i64 y.k, .int .i64 y.v], sh31, hb_5.row, rfl⟩⟩, trivial⟩ ?_
      have he : heapM l o = (l, ⟨0, y.k, y.v⟩) := (by rw [heapM, if_neg n10, if_neg n22, if_neg (by omega), if_neg n68, hva])
      rw [he]
      exact ⟨S, _, _, M, rfl, hc, hF.sub S, Up.refl _ _⟩
end Go.Proofs.Ytfkanamdlndkfaa
