/-
  The package ref and its reference: places, generations, which references may be.
-/
import Derived.Test.YtefakjhfcgjhgaaFacts
set_option linter.unusedVariables false
set_option linter.unusedSimpArgs false
namespace Go.Proofs.Ytefakjhfcgjhgaa
open Go Go.XL

def U64 (r : Int) : Prop := 0 ≤ r ∧ r < 18446744073709551616
def I64 (r : Int) : Prop := -9223372036854775808 ≤ r ∧ r ≤ 9223372036854775807
theorem tmodE {a b : Int} (h : 0 ≤ a) : a.tmod b = a % b := Int.tmod_eq_emod_of_nonneg h
theorem tdivE {a b : Int} (h : 0 ≤ a) : a.tdiv b = a / b := Int.tdiv_eq_ediv_of_nonneg h

/-- a reference that may be -/
def rightR (r : Int) : Bool := decide (r = 0 ∨ 1 ≤ r % 65536 ∧ r % 65536 ≤ 512 ∧ r / 65536 ≤ 1048576)
/-- of a node: its place, its generation -/
def nodeR (r : Int) : Prop := ¬ r = 0 ∧ rightR r = true
instance (r : Int) : Decidable (nodeR r) := inferInstanceAs (Decidable (_ ∧ _))
def placeR (r : Int) : Int := if nodeR r then r % 65536 - 1 else -1
def genR (r : Int) : Int := if nodeR r then r / 65536 else 0
def isR (p g : Int) : Bool := decide (0 ≤ p ∧ p < 512 ∧ 0 ≤ g ∧ g ≤ 1048576)
def ofR (p g : Int) : Int := g * 65536 + p + 1

theorem rightR_iff (r : Int) : rightR r = true ↔ (r = 0 ∨ 1 ≤ r % 65536 ∧ r % 65536 ≤ 512 ∧ r / 65536 ≤ 1048576) := by
  unfold rightR; exact decide_eq_true_iff
theorem nodeR_iff (r : Int) : nodeR r ↔ (¬ r = 0 ∧ 1 ≤ r % 65536 ∧ r % 65536 ≤ 512 ∧ r / 65536 ≤ 1048576) := by
  unfold nodeR; rw [rightR_iff]
  constructor
  · rintro ⟨h1, h2⟩; exact ⟨h1, h2.resolve_left h1⟩
  · rintro ⟨h1, h2⟩; exact ⟨h1, .inr h2⟩

theorem c_refRight (r : Int) (hr : U64 r) (w : World) : FC Try.prog 71 [.int .u64 r] w (Val (.bool (rightR r)) w) := by
  unfold U64 at hr
  refine FC.intro Try.func71 rfl Try.ntmps71 rfl ?_
  have S := Sub.refl w
  refine RC.seq ?_
  refine RC.region rfl ?_
  refine RL.ev (.assign rfl) rfl rfl ?_
  refine RL.nil (RC.back ?_)
  refine RC.seq ?_
  refine RC.region rfl ?_
  refine RL.ev (.move rfl) rfl rfl ?_
  refine RL.ev (.as (v' := .int .u64 (r % 65536)) (.rem rfl rfl (by decide)) (by rw [tmodE hr.1])) rfl rfl ?_
  refine RL.ev (.assign rfl) rfl rfl ?_
  refine RL.nil (RC.back ?_)
  refine RC.seq ?_
  refine RC.region rfl ?_
  refine RL.ev (.move rfl) rfl rfl ?_
  refine RL.ev (.bin rfl rfl rfl) rfl rfl ?_
  refine RL.ev (.move rfl) rfl rfl ?_
  refine RL.split 8 rfl (fun h1 => ?_) (fun h1 => ?_)
  ·
    refine RL.off rfl rfl ?_
    refine RL.off rfl rfl ?_
    refine RL.off rfl rfl ?_
    refine RL.off rfl rfl ?_
    refine RL.off rfl rfl ?_
    refine RL.off rfl rfl ?_
    refine RL.off rfl rfl ?_
    refine RL.off rfl rfl ?_
    refine RL.off rfl rfl ?_
    refine RL.off rfl rfl ?_
    refine RL.off rfl rfl ?_
    refine RL.ev (.pick_t rfl rfl) rfl rfl ?_
    refine RL.ev (.assign rfl) rfl rfl ?_
    refine RL.nil (RC.back ?_)
    refine RC.done (rs := [.tmp 2]) (vs := [_]) rfl rfl ⟨rfl, trivial⟩ ?_
    -- end 1
    first | exact ⟨congrArg Value.bool (decide_eq_true (by omega)).symm, S⟩ | exact ⟨congrArg Value.bool (decide_eq_false (by omega)).symm, S⟩ | exact ⟨congrArg Value.bool (decide_eq_decide.2 (by omega)), S⟩
  ·
    refine RL.ev (.move rfl) rfl rfl ?_
    refine RL.ev (.bin rfl rfl rfl) rfl rfl ?_
    refine RL.ev (.move rfl) rfl rfl ?_
    refine RL.split 11 rfl (fun h2 => ?_) (fun h2 => ?_)
    ·
      refine RL.ev (.move rfl) rfl rfl ?_
      refine RL.ev (.bin rfl rfl rfl) rfl rfl ?_
      refine RL.ev (.pick_t rfl rfl) rfl rfl ?_
      refine RL.ev (.move rfl) rfl rfl ?_
      refine RL.split 15 rfl (fun h3 => ?_) (fun h3 => ?_)
      ·
        refine RL.ev (.move rfl) rfl rfl ?_
        refine RL.ev (.as (.quo rfl rfl (by decide)) (wu64 (y := r / 65536) (by exact tdivE hr.1) (by omega))) rfl rfl ?_
        refine RL.ev (.bin rfl rfl rfl) rfl rfl ?_
        refine RL.ev (.pick_t rfl rfl) rfl rfl ?_
        refine RL.ev (.pick_f rfl rfl) rfl rfl ?_
        refine RL.ev (.assign rfl) rfl rfl ?_
        refine RL.nil (RC.back ?_)
        refine RC.done (rs := [.tmp 2]) (vs := [_]) rfl rfl ⟨rfl, trivial⟩ ?_
        -- end 2
        first | exact ⟨congrArg Value.bool (decide_eq_true (by omega)).symm, S⟩ | exact ⟨congrArg Value.bool (decide_eq_false (by omega)).symm, S⟩ | exact ⟨congrArg Value.bool (decide_eq_decide.2 (by omega)), S⟩
      ·
        refine RL.off rfl rfl ?_
        refine RL.off rfl rfl ?_
        refine RL.off rfl rfl ?_
        refine RL.ev (.pick_f rfl rfl) rfl rfl ?_
        refine RL.ev (.pick_f rfl rfl) rfl rfl ?_
        refine RL.ev (.assign rfl) rfl rfl ?_
        refine RL.nil (RC.back ?_)
        refine RC.done (rs := [.tmp 2]) (vs := [_]) rfl rfl ⟨rfl, trivial⟩ ?_
        -- end 3
        first | exact ⟨congrArg Value.bool (decide_eq_true (by omega)).symm, S⟩ | exact ⟨congrArg Value.bool (decide_eq_false (by omega)).symm, S⟩ | exact ⟨congrArg Value.bool (decide_eq_decide.2 (by omega)), S⟩
    ·
      refine RL.off rfl rfl ?_
      refine RL.off rfl rfl ?_
      refine RL.ev (.pick_f rfl rfl) rfl rfl ?_
      refine RL.ev (.move rfl) rfl rfl ?_
      refine RL.off rfl rfl ?_
      refine RL.off rfl rfl ?_
      refine RL.off rfl rfl ?_
      refine RL.ev (.pick_f rfl rfl) rfl rfl ?_
      refine RL.ev (.pick_f rfl rfl) rfl rfl ?_
      refine RL.ev (.assign rfl) rfl rfl ?_
      refine RL.nil (RC.back ?_)
      refine RC.done (rs := [.tmp 2]) (vs := [_]) rfl rfl ⟨rfl, trivial⟩ ?_
      -- end 4
      first | exact ⟨congrArg Value.bool (decide_eq_true (by omega)).symm, S⟩ | exact ⟨congrArg Value.bool (decide_eq_false (by omega)).symm, S⟩ | exact ⟨congrArg Value.bool (decide_eq_decide.2 (by omega)), S⟩
theorem c_bitsPlace (r : Int) (hr : U64 r) (w : World) : FC Try.prog 65 [.int .u64 r] w (Val (.int .i64 (r % 65536 - 1)) w) := by
  unfold U64 at hr
  refine FC.intro Try.func65 rfl Try.ntmps65 rfl ?_
  have S := Sub.refl w
  refine RC.seq ?_
  refine RC.region rfl ?_
  refine RL.ev (.assign rfl) rfl rfl ?_
  refine RL.nil (RC.back ?_)
  refine RC.seq ?_
  refine RC.region rfl ?_
  refine RL.ev (.move rfl) rfl rfl ?_
  refine RL.ev (.as (v' := .int .u64 (r % 65536)) (.rem rfl rfl (by decide)) (by rw [tmodE hr.1])) rfl rfl ?_
  refine RL.ev (.as (.conv i114 i3 rfl) (wi64 (y := r % 65536) (by rfl) (by omega))) rfl rfl ?_
  refine RL.ev (.as (.bin rfl rfl rfl) (wi64 (y := r % 65536 - 1) (by rfl) (by omega))) rfl rfl ?_
  refine RL.ev (.assign rfl) rfl rfl ?_
  refine RL.nil (RC.back ?_)
  refine RC.done (rs := [.tmp 2]) (vs := [_]) rfl rfl ⟨rfl, trivial⟩ ?_
  -- end 1
  exact ⟨rfl, S⟩
theorem c_bitsGen (r : Int) (hr : U64 r) (w : World) : FC Try.prog 68 [.int .u64 r] w (Val (.int .i64 (r / 65536)) w) := by
  unfold U64 at hr
  refine FC.intro Try.func68 rfl Try.ntmps68 rfl ?_
  have S := Sub.refl w
  refine RC.seq ?_
  refine RC.region rfl ?_
  refine RL.ev (.assign rfl) rfl rfl ?_
  refine RL.nil (RC.back ?_)
  refine RC.seq ?_
  refine RC.region rfl ?_
  refine RL.ev (.move rfl) rfl rfl ?_
  refine RL.ev (.as (.quo rfl rfl (by decide)) (wu64 (y := r / 65536) (by exact tdivE hr.1) (by omega))) rfl rfl ?_
  refine RL.ev (.as (.conv i114 i3 rfl) (wi64 (y := r / 65536) (by rfl) (by omega))) rfl rfl ?_
  refine RL.ev (.assign rfl) rfl rfl ?_
  refine RL.nil (RC.back ?_)
  refine RC.done (rs := [.tmp 2]) (vs := [_]) rfl rfl ⟨rfl, trivial⟩ ?_
  -- end 1
  exact ⟨rfl, S⟩
theorem c_tellsPlace (r : Int) (hr : U64 r) (w : World) : FC Try.prog 64 [.int .u64 r, .func (.func 65) #[] #[], .int .i64 (-1)] w (Val (.int .i64 (placeR r)) w) := by
  refine FC.intro Try.func64 rfl Try.ntmps64 rfl ?_
  have S := Sub.refl w
  refine RC.seq ?_
  refine RC.region rfl ?_
  refine RL.ev (.assign rfl) rfl rfl ?_
  refine RL.nil (RC.back ?_)
  refine RC.seq ?_
  refine RC.seq ?_
  refine RC.region rfl ?_
  refine RL.ev (.move rfl) rfl rfl ?_
  refine RL.ev (.bin rfl rfl rfl) rfl rfl ?_
  refine RL.ev (.move rfl) rfl rfl ?_
  refine RL.split 9 rfl (fun h1 => ?_) (fun h1 => ?_)
  ·
    refine RL.off rfl rfl ?_
    refine RL.off rfl rfl ?_
    refine RL.off rfl rfl ?_
    refine RL.ev (.pick_t rfl rfl) rfl rfl ?_
    refine RL.nil (RC.back ?_)
    refine RC.cond_t rfl ?_
    refine RC.seq ?_
    refine RC.region rfl ?_
    refine RL.ev (.move rfl) rfl rfl ?_
    refine RL.ev (.assign rfl) rfl rfl ?_
    refine RL.nil (RC.back ?_)
    refine RC.done (rs := [.tmp 6]) (vs := [_]) rfl rfl ⟨rfl, trivial⟩ ?_
    -- end 1
    first | exact ⟨congrArg (Value.int .i64) (if_neg (fun h : nodeR r => by first | exact h.1 (by assumption) | simp_all [h.2])).symm, S⟩ | exact ⟨congrArg (Value.int .i64) (if_pos (show nodeR r from ⟨by assumption, by simpa using ‹(!rightR r) = false›⟩)).symm, S⟩
  ·
    refine RL.ev (.move rfl) rfl rfl ?_
    refine RL.call rfl ok71 (c_refRight r hr w) rfl rfl ?_
    rintro _ w2 ⟨rfl, s3⟩
    have S := S.trans s3
    refine RL.ev (.not rfl) rfl rfl ?_
    refine RL.ev (.pick_f rfl rfl) rfl rfl ?_
    refine RL.nil (RC.back ?_)
    refine RC.cond rfl (fun h4 => ?_) (fun h4 => ?_)
    ·
      refine RC.seq ?_
      refine RC.region rfl ?_
      refine RL.ev (.move rfl) rfl rfl ?_
      refine RL.ev (.assign rfl) rfl rfl ?_
      refine RL.nil (RC.back ?_)
      refine RC.done (rs := [.tmp 6]) (vs := [_]) rfl rfl ⟨rfl, trivial⟩ ?_
      -- end 2
      first | exact ⟨congrArg (Value.int .i64) (if_neg (fun h : nodeR r => by first | exact h.1 (by assumption) | simp_all [h.2])).symm, S⟩ | exact ⟨congrArg (Value.int .i64) (if_pos (show nodeR r from ⟨by assumption, by simpa using ‹(!rightR r) = false›⟩)).symm, S⟩
    ·
      refine RC.skip (RC.back ?_)
      refine RC.seq ?_
      refine RC.region rfl ?_
      refine RL.ev (.move rfl) rfl rfl ?_
      refine RL.ev (.move rfl) rfl rfl ?_
      refine RL.callv rfl rfl (us := []) (cs := []) ok65 (c_bitsPlace r hr w2) rfl rfl ?_
      rintro _ w5 ⟨rfl, s6⟩
      have S := S.trans s6
      refine RL.ev (.assign rfl) rfl rfl ?_
      refine RL.nil (RC.back ?_)
      refine RC.done (rs := [.tmp 6]) (vs := [_]) rfl rfl ⟨rfl, trivial⟩ ?_
      -- end 3
      first | exact ⟨congrArg (Value.int .i64) (if_neg (fun h : nodeR r => by first | exact h.1 (by assumption) | simp_all [h.2])).symm, S⟩ | exact ⟨congrArg (Value.int .i64) (if_pos (show nodeR r from ⟨by assumption, by simpa using ‹(!rightR r) = false›⟩)).symm, S⟩
theorem c_tellsGen (r : Int) (hr : U64 r) (w : World) : FC Try.prog 64 [.int .u64 r, .func (.func 68) #[] #[], .int .i64 0] w (Val (.int .i64 (genR r)) w) := by
  refine FC.intro Try.func64 rfl Try.ntmps64 rfl ?_
  have S := Sub.refl w
  refine RC.seq ?_
  refine RC.region rfl ?_
  refine RL.ev (.assign rfl) rfl rfl ?_
  refine RL.nil (RC.back ?_)
  refine RC.seq ?_
  refine RC.seq ?_
  refine RC.region rfl ?_
  refine RL.ev (.move rfl) rfl rfl ?_
  refine RL.ev (.bin rfl rfl rfl) rfl rfl ?_
  refine RL.ev (.move rfl) rfl rfl ?_
  refine RL.split 9 rfl (fun h1 => ?_) (fun h1 => ?_)
  ·
    refine RL.off rfl rfl ?_
    refine RL.off rfl rfl ?_
    refine RL.off rfl rfl ?_
    refine RL.ev (.pick_t rfl rfl) rfl rfl ?_
    refine RL.nil (RC.back ?_)
    refine RC.cond_t rfl ?_
    refine RC.seq ?_
    refine RC.region rfl ?_
    refine RL.ev (.move rfl) rfl rfl ?_
    refine RL.ev (.assign rfl) rfl rfl ?_
    refine RL.nil (RC.back ?_)
    refine RC.done (rs := [.tmp 6]) (vs := [_]) rfl rfl ⟨rfl, trivial⟩ ?_
    -- end 1
    first | exact ⟨congrArg (Value.int .i64) (if_neg (fun h : nodeR r => by first | exact h.1 (by assumption) | simp_all [h.2])).symm, S⟩ | exact ⟨congrArg (Value.int .i64) (if_pos (show nodeR r from ⟨by assumption, by simpa using ‹(!rightR r) = false›⟩)).symm, S⟩
  ·
    refine RL.ev (.move rfl) rfl rfl ?_
    refine RL.call rfl ok71 (c_refRight r hr w) rfl rfl ?_
    rintro _ w2 ⟨rfl, s3⟩
    have S := S.trans s3
    refine RL.ev (.not rfl) rfl rfl ?_
    refine RL.ev (.pick_f rfl rfl) rfl rfl ?_
    refine RL.nil (RC.back ?_)
    refine RC.cond rfl (fun h4 => ?_) (fun h4 => ?_)
    ·
      refine RC.seq ?_
      refine RC.region rfl ?_
      refine RL.ev (.move rfl) rfl rfl ?_
      refine RL.ev (.assign rfl) rfl rfl ?_
      refine RL.nil (RC.back ?_)
      refine RC.done (rs := [.tmp 6]) (vs := [_]) rfl rfl ⟨rfl, trivial⟩ ?_
      -- end 2
      first | exact ⟨congrArg (Value.int .i64) (if_neg (fun h : nodeR r => by first | exact h.1 (by assumption) | simp_all [h.2])).symm, S⟩ | exact ⟨congrArg (Value.int .i64) (if_pos (show nodeR r from ⟨by assumption, by simpa using ‹(!rightR r) = false›⟩)).symm, S⟩
    ·
      refine RC.skip (RC.back ?_)
      refine RC.seq ?_
      refine RC.region rfl ?_
      refine RL.ev (.move rfl) rfl rfl ?_
      refine RL.ev (.move rfl) rfl rfl ?_
      refine RL.callv rfl rfl (us := []) (cs := []) ok68 (c_bitsGen r hr w2) rfl rfl ?_
      rintro _ w5 ⟨rfl, s6⟩
      have S := S.trans s6
      refine RL.ev (.assign rfl) rfl rfl ?_
      refine RL.nil (RC.back ?_)
      refine RC.done (rs := [.tmp 6]) (vs := [_]) rfl rfl ⟨rfl, trivial⟩ ?_
      -- end 3
      first | exact ⟨congrArg (Value.int .i64) (if_neg (fun h : nodeR r => by first | exact h.1 (by assumption) | simp_all [h.2])).symm, S⟩ | exact ⟨congrArg (Value.int .i64) (if_pos (show nodeR r from ⟨by assumption, by simpa using ‹(!rightR r) = false›⟩)).symm, S⟩
theorem c_refPlace (r : Int) (hr : U64 r) (w : World) : FC Try.prog 53 [.int .u64 r] w (Val (.int .i64 (placeR r)) w) := by
  refine FC.intro Try.func53 rfl Try.ntmps53 rfl ?_
  have S := Sub.refl w
  refine RC.seq ?_
  refine RC.region rfl ?_
  refine RL.ev (.assign rfl) rfl rfl ?_
  refine RL.nil (RC.back ?_)
  refine RC.seq ?_
  refine RC.region rfl ?_
  refine RL.ev (.move rfl) rfl rfl ?_
  refine RL.call rfl ok64 (c_tellsPlace r hr w) rfl rfl ?_
  rintro _ w1 ⟨rfl, s2⟩
  have S := S.trans s2
  refine RL.ev (.assign rfl) rfl rfl ?_
  refine RL.nil (RC.back ?_)
  refine RC.done (rs := [.tmp 2]) (vs := [_]) rfl rfl ⟨rfl, trivial⟩ ?_
  -- end 1
  exact ⟨rfl, S⟩
theorem c_refGen (r : Int) (hr : U64 r) (w : World) : FC Try.prog 60 [.int .u64 r] w (Val (.int .i64 (genR r)) w) := by
  refine FC.intro Try.func60 rfl Try.ntmps60 rfl ?_
  have S := Sub.refl w
  refine RC.seq ?_
  refine RC.region rfl ?_
  refine RL.ev (.assign rfl) rfl rfl ?_
  refine RL.nil (RC.back ?_)
  refine RC.seq ?_
  refine RC.region rfl ?_
  refine RL.ev (.move rfl) rfl rfl ?_
  refine RL.call rfl ok64 (c_tellsGen r hr w) rfl rfl ?_
  rintro _ w1 ⟨rfl, s2⟩
  have S := S.trans s2
  refine RL.ev (.assign rfl) rfl rfl ?_
  refine RL.nil (RC.back ?_)
  refine RC.done (rs := [.tmp 2]) (vs := [_]) rfl rfl ⟨rfl, trivial⟩ ?_
  -- end 1
  exact ⟨rfl, S⟩
theorem isR_iff (p g : Int) : isR p g = true ↔ 0 ≤ p ∧ p < 512 ∧ 0 ≤ g ∧ g ≤ 1048576 := by unfold isR; exact decide_eq_true_iff
theorem c_refOf' (p g : Int) (h : isR p g = true) (w : World) : FC Try.prog 63 [.int .i64 p, .int .i64 g] w (Val (.tuple #[.int .u64 (ofR p g), .int .i64 0]) w) := by
  have hp := (isR_iff p g).1 h
  refine FC.intro Try.func63 rfl Try.ntmps63 rfl ?_
  have S := Sub.refl w
  refine RC.seq ?_
  refine RC.region rfl ?_
  refine RL.ev (.assign rfl) rfl rfl ?_
  refine RL.ev (.assign rfl) rfl rfl ?_
  refine RL.nil (RC.back ?_)
  refine RC.seq ?_
  refine RC.seq ?_
  refine RC.region rfl ?_
  refine RL.ev (.move rfl) rfl rfl ?_
  refine RL.ev (.as (v' := .bool false) (.bin rfl rfl rfl) (congrArg Value.bool (decide_eq_false (by omega)))) rfl rfl ?_
  refine RL.ev (.move rfl) rfl rfl ?_
  refine RL.ev (.move rfl) rfl rfl ?_
  refine RL.ev (.as (v' := .bool false) (.bin rfl rfl rfl) (congrArg Value.bool (decide_eq_false (by omega)))) rfl rfl ?_
  refine RL.ev (.pick_f rfl rfl) rfl rfl ?_
  refine RL.ev (.move rfl) rfl rfl ?_
  refine RL.ev (.move rfl) rfl rfl ?_
  refine RL.ev (.as (v' := .bool false) (.bin rfl rfl rfl) (congrArg Value.bool (decide_eq_false (by omega)))) rfl rfl ?_
  refine RL.ev (.pick_f rfl rfl) rfl rfl ?_
  refine RL.ev (.move rfl) rfl rfl ?_
  refine RL.ev (.move rfl) rfl rfl ?_
  refine RL.ev (.as (v' := .bool false) (.bin rfl rfl rfl) (congrArg Value.bool (decide_eq_false (by omega)))) rfl rfl ?_
  refine RL.ev (.pick_f rfl rfl) rfl rfl ?_
  refine RL.nil (RC.back ?_)
  refine RC.cond_f rfl ?_
  refine RC.skip (RC.back ?_)
  refine RC.seq ?_
  refine RC.region rfl ?_
  refine RL.ev (.move rfl) rfl rfl ?_
  refine RL.ev (.as (.bin rfl rfl rfl) (wi64 (y := g * 65536) (by rfl) (by omega))) rfl rfl ?_
  refine RL.ev (.move rfl) rfl rfl ?_
  refine RL.ev (.as (.bin rfl rfl rfl) (wi64 (y := g * 65536 + p) (by rfl) (by omega))) rfl rfl ?_
  refine RL.ev (.as (.bin rfl rfl rfl) (wi64 (y := g * 65536 + p + 1) (by rfl) (by omega))) rfl rfl ?_
  refine RL.ev (.as (.conv i3 i28 rfl) (wu64 (y := g * 65536 + p + 1) (by rfl) (by omega))) rfl rfl ?_
  refine RL.ev (.assign rfl) rfl rfl ?_
  refine RL.ev (.assign rfl) rfl rfl ?_
  refine RL.nil (RC.back ?_)
  refine RC.done (rs := [.tmp 4, .tmp 5]) (vs := [_, _]) rfl rfl ⟨rfl, rfl, trivial⟩ ?_
  -- end 1
  exact ⟨rfl, S⟩
theorem c_refOf_no (p g : Int) (h : ¬ isR p g = true) (w : World) : FC Try.prog 63 [.int .i64 p, .int .i64 g] w (Val (.tuple #[.int .u64 0, .int .i64 1]) w) := by
  have hp := mt (isR_iff p g).2 h
  refine FC.intro Try.func63 rfl Try.ntmps63 rfl ?_
  have S := Sub.refl w
  refine RC.seq ?_
  refine RC.region rfl ?_
  refine RL.ev (.assign rfl) rfl rfl ?_
  refine RL.ev (.assign rfl) rfl rfl ?_
  refine RL.nil (RC.back ?_)
  refine RC.seq ?_
  refine RC.seq ?_
  refine RC.region rfl ?_
  refine RL.ev (.move rfl) rfl rfl ?_
  refine RL.ev (.bin rfl rfl rfl) rfl rfl ?_
  refine RL.ev (.move rfl) rfl rfl ?_
  refine RL.split 8 rfl (fun h1 => ?_) (fun h1 => ?_)
  ·
    refine RL.off rfl rfl ?_
    refine RL.off rfl rfl ?_
    refine RL.ev (.pick_t rfl rfl) rfl rfl ?_
    refine RL.ev (.move rfl) rfl rfl ?_
    refine RL.off rfl rfl ?_
    refine RL.off rfl rfl ?_
    refine RL.ev (.pick_t rfl rfl) rfl rfl ?_
    refine RL.ev (.move rfl) rfl rfl ?_
    refine RL.off rfl rfl ?_
    refine RL.off rfl rfl ?_
    refine RL.ev (.pick_t rfl rfl) rfl rfl ?_
    refine RL.nil (RC.back ?_)
    refine RC.cond_t rfl ?_
    refine RC.seq ?_
    refine RC.region rfl ?_
    refine RL.ev (.assign rfl) rfl rfl ?_
    refine RL.ev (.assign rfl) rfl rfl ?_
    refine RL.nil (RC.back ?_)
    refine RC.done (rs := [.tmp 4, .tmp 5]) (vs := [_, _]) rfl rfl ⟨rfl, rfl, trivial⟩ ?_
    -- end 1
    exact ⟨rfl, S⟩
  ·
    refine RL.ev (.move rfl) rfl rfl ?_
    refine RL.ev (.bin rfl rfl rfl) rfl rfl ?_
    refine RL.ev (.pick_f rfl rfl) rfl rfl ?_
    refine RL.ev (.move rfl) rfl rfl ?_
    refine RL.split 12 rfl (fun h2 => ?_) (fun h2 => ?_)
    ·
      refine RL.off rfl rfl ?_
      refine RL.off rfl rfl ?_
      refine RL.ev (.pick_t rfl rfl) rfl rfl ?_
      refine RL.ev (.move rfl) rfl rfl ?_
      refine RL.off rfl rfl ?_
      refine RL.off rfl rfl ?_
      refine RL.ev (.pick_t rfl rfl) rfl rfl ?_
      refine RL.nil (RC.back ?_)
      refine RC.cond_t rfl ?_
      refine RC.seq ?_
      refine RC.region rfl ?_
      refine RL.ev (.assign rfl) rfl rfl ?_
      refine RL.ev (.assign rfl) rfl rfl ?_
      refine RL.nil (RC.back ?_)
      refine RC.done (rs := [.tmp 4, .tmp 5]) (vs := [_, _]) rfl rfl ⟨rfl, rfl, trivial⟩ ?_
      -- end 2
      exact ⟨rfl, S⟩
    ·
      refine RL.ev (.move rfl) rfl rfl ?_
      refine RL.ev (.bin rfl rfl rfl) rfl rfl ?_
      refine RL.ev (.pick_f rfl rfl) rfl rfl ?_
      refine RL.ev (.move rfl) rfl rfl ?_
      refine RL.split 16 rfl (fun h3 => ?_) (fun h3 => ?_)
      ·
        refine RL.off rfl rfl ?_
        refine RL.off rfl rfl ?_
        refine RL.ev (.pick_t rfl rfl) rfl rfl ?_
        refine RL.nil (RC.back ?_)
        refine RC.cond_t rfl ?_
        refine RC.seq ?_
        refine RC.region rfl ?_
        refine RL.ev (.assign rfl) rfl rfl ?_
        refine RL.ev (.assign rfl) rfl rfl ?_
        refine RL.nil (RC.back ?_)
        refine RC.done (rs := [.tmp 4, .tmp 5]) (vs := [_, _]) rfl rfl ⟨rfl, rfl, trivial⟩ ?_
        -- end 3
        exact ⟨rfl, S⟩
      ·
        refine RL.ev (.move rfl) rfl rfl ?_
        refine RL.ev (.bin rfl rfl rfl) rfl rfl ?_
        refine RL.ev (.pick_f rfl rfl) rfl rfl ?_
        refine RL.nil (RC.back ?_)
        refine RC.cond_dec rfl (fun h4 => ?_) (fun h4 => ?_)
        ·
          refine RC.seq ?_
          refine RC.region rfl ?_
          refine RL.ev (.assign rfl) rfl rfl ?_
          refine RL.ev (.assign rfl) rfl rfl ?_
          refine RL.nil (RC.back ?_)
          refine RC.done (rs := [.tmp 4, .tmp 5]) (vs := [_, _]) rfl rfl ⟨rfl, rfl, trivial⟩ ?_
          -- end 4
          exact ⟨rfl, S⟩
        ·
          exact absurd (by omega) hp

/-! ### the reference -/
theorem c_r3Is (p g : Int) (w : World) : FC Try.prog 72 [.int .i64 p, .int .i64 g] w (Val (.bool (isR p g)) w) := by
  refine FC.intro Try.func72 rfl Try.ntmps72 rfl ?_
  have S := Sub.refl w
  refine RC.seq ?_
  refine RC.region rfl ?_
  refine RL.ev (.assign rfl) rfl rfl ?_
  refine RL.nil (RC.back ?_)
  refine RC.seq ?_
  refine RC.region rfl ?_
  refine RL.ev (.move rfl) rfl rfl ?_
  refine RL.ev (.bin rfl rfl rfl) rfl rfl ?_
  refine RL.ev (.move rfl) rfl rfl ?_
  refine RL.split 7 rfl (fun h1 => ?_) (fun h1 => ?_)
  ·
    refine RL.ev (.move rfl) rfl rfl ?_
    refine RL.ev (.bin rfl rfl rfl) rfl rfl ?_
    refine RL.ev (.pick_t rfl rfl) rfl rfl ?_
    refine RL.ev (.move rfl) rfl rfl ?_
    refine RL.split 11 rfl (fun h2 => ?_) (fun h2 => ?_)
    ·
      refine RL.ev (.move rfl) rfl rfl ?_
      refine RL.ev (.bin rfl rfl rfl) rfl rfl ?_
      refine RL.ev (.pick_t rfl rfl) rfl rfl ?_
      refine RL.ev (.move rfl) rfl rfl ?_
      refine RL.split 15 rfl (fun h3 => ?_) (fun h3 => ?_)
      ·
        refine RL.ev (.move rfl) rfl rfl ?_
        refine RL.ev (.bin rfl rfl rfl) rfl rfl ?_
        refine RL.ev (.pick_t rfl rfl) rfl rfl ?_
        refine RL.ev (.assign rfl) rfl rfl ?_
        refine RL.nil (RC.back ?_)
        refine RC.done (rs := [.tmp 4]) (vs := [_]) rfl rfl ⟨rfl, trivial⟩ ?_
        -- end 1
        first | exact ⟨congrArg Value.bool (decide_eq_true (by omega)).symm, S⟩ | exact ⟨congrArg Value.bool (decide_eq_false (by omega)).symm, S⟩ | exact ⟨congrArg Value.bool (decide_eq_decide.2 (by omega)), S⟩
      ·
        refine RL.off rfl rfl ?_
        refine RL.off rfl rfl ?_
        refine RL.ev (.pick_f rfl rfl) rfl rfl ?_
        refine RL.ev (.assign rfl) rfl rfl ?_
        refine RL.nil (RC.back ?_)
        refine RC.done (rs := [.tmp 4]) (vs := [_]) rfl rfl ⟨rfl, trivial⟩ ?_
        -- end 2
        first | exact ⟨congrArg Value.bool (decide_eq_true (by omega)).symm, S⟩ | exact ⟨congrArg Value.bool (decide_eq_false (by omega)).symm, S⟩ | exact ⟨congrArg Value.bool (decide_eq_decide.2 (by omega)), S⟩
    ·
      refine RL.off rfl rfl ?_
      refine RL.off rfl rfl ?_
      refine RL.ev (.pick_f rfl rfl) rfl rfl ?_
      refine RL.ev (.move rfl) rfl rfl ?_
      refine RL.off rfl rfl ?_
      refine RL.off rfl rfl ?_
      refine RL.ev (.pick_f rfl rfl) rfl rfl ?_
      refine RL.ev (.assign rfl) rfl rfl ?_
      refine RL.nil (RC.back ?_)
      refine RC.done (rs := [.tmp 4]) (vs := [_]) rfl rfl ⟨rfl, trivial⟩ ?_
      -- end 3
      first | exact ⟨congrArg Value.bool (decide_eq_true (by omega)).symm, S⟩ | exact ⟨congrArg Value.bool (decide_eq_false (by omega)).symm, S⟩ | exact ⟨congrArg Value.bool (decide_eq_decide.2 (by omega)), S⟩
  ·
    refine RL.off rfl rfl ?_
    refine RL.off rfl rfl ?_
    refine RL.ev (.pick_f rfl rfl) rfl rfl ?_
    refine RL.ev (.move rfl) rfl rfl ?_
    refine RL.off rfl rfl ?_
    refine RL.off rfl rfl ?_
    refine RL.ev (.pick_f rfl rfl) rfl rfl ?_
    refine RL.ev (.move rfl) rfl rfl ?_
    refine RL.off rfl rfl ?_
    refine RL.off rfl rfl ?_
    refine RL.ev (.pick_f rfl rfl) rfl rfl ?_
    refine RL.ev (.assign rfl) rfl rfl ?_
    refine RL.nil (RC.back ?_)
    refine RC.done (rs := [.tmp 4]) (vs := [_]) rfl rfl ⟨rfl, trivial⟩ ?_
    -- end 4
    first | exact ⟨congrArg Value.bool (decide_eq_true (by omega)).symm, S⟩ | exact ⟨congrArg Value.bool (decide_eq_false (by omega)).symm, S⟩ | exact ⟨congrArg Value.bool (decide_eq_decide.2 (by omega)), S⟩
/-- the reference's generation; -1: none -/
def gen3 (r : Int) : Int := if r % 65536 = 0 ∨ r % 65536 > 512 ∨ r / 65536 > 1048576 then -1 else r / 65536
theorem c_r3Gen (r : Int) (hr : U64 r) (w : World) : FC Try.prog 67 [.int .u64 r] w (Val (.int .i64 (gen3 r)) w) := by
  unfold U64 at hr
  refine FC.intro Try.func67 rfl Try.ntmps67 rfl ?_
  have S := Sub.refl w
  refine RC.seq ?_
  refine RC.region rfl ?_
  refine RL.ev (.assign rfl) rfl rfl ?_
  refine RL.nil (RC.back ?_)
  refine RC.seq ?_
  refine RC.seq ?_
  refine RC.region rfl ?_
  refine RL.ev (.move rfl) rfl rfl ?_
  refine RL.ev (.as (.quo rfl rfl (by decide)) (wu64 (y := r / 65536) (by exact tdivE hr.1) (by omega))) rfl rfl ?_
  refine RL.ev (.bin rfl rfl rfl) rfl rfl ?_
  refine RL.nil (RC.back ?_)
  refine RC.cond_dec rfl (fun h1 => ?_) (fun h1 => ?_)
  ·
    refine RC.seq ?_
    refine RC.region rfl ?_
    refine RL.ev (.assign rfl) rfl rfl ?_
    refine RL.nil (RC.back ?_)
    refine RC.done (rs := [.tmp 2]) (vs := [_]) rfl rfl ⟨rfl, trivial⟩ ?_
    -- end 1
    exact ⟨congrArg (Value.int .i64) (if_pos (by omega)).symm, S⟩
  ·
    refine RC.skip (RC.back ?_)
    refine RC.seq ?_
    refine RC.region rfl ?_
    refine RL.ev (.move rfl) rfl rfl ?_
    refine RL.ev (.as (.quo rfl rfl (by decide)) (wu64 (y := r / 65536) (by exact tdivE hr.1) (by omega))) rfl rfl ?_
    refine RL.ev (.as (.conv i28 i3 rfl) (wi64 (y := r / 65536) (by rfl) (by omega))) rfl rfl ?_
    refine RL.ev (.assign rfl) rfl rfl ?_
    refine RL.nil (RC.back ?_)
    refine RC.seq ?_
    refine RC.region rfl ?_
    refine RL.ev (.move rfl) rfl rfl ?_
    refine RL.ev (.as (v' := .int .u64 (r % 65536)) (.rem rfl rfl (by decide)) (by rw [tmodE hr.1])) rfl rfl ?_
    refine RL.ev (.as (.conv i28 i3 rfl) (wi64 (y := r % 65536) (by rfl) (by omega))) rfl rfl ?_
    refine RL.ev (.as (.bin rfl rfl rfl) (wi64 (y := r % 65536 - 1) (by rfl) (by omega))) rfl rfl ?_
    refine RL.ev (.assign rfl) rfl rfl ?_
    refine RL.nil (RC.back ?_)
    refine RC.seq ?_
    refine RC.seq ?_
    refine RC.region rfl ?_
    refine RL.ev (.move rfl) rfl rfl ?_
    refine RL.ev (.move rfl) rfl rfl ?_
    refine RL.call rfl ok72 (c_r3Is _ _ w) rfl rfl ?_
    rintro _ w2 ⟨rfl, s3⟩
    have S := S.trans s3
    refine RL.ev (.not rfl) rfl rfl ?_
    refine RL.nil (RC.back ?_)
    refine RC.cond rfl (fun h4 => ?_) (fun h4 => ?_)
    ·
      have hi := mt (isR_iff _ _).2 (by simpa using h4)
      refine RC.seq ?_
      refine RC.region rfl ?_
      refine RL.ev (.assign rfl) rfl rfl ?_
      refine RL.nil (RC.back ?_)
      refine RC.done (rs := [.tmp 2]) (vs := [_]) rfl rfl ⟨rfl, trivial⟩ ?_
      -- end 2
      exact ⟨congrArg (Value.int .i64) (if_pos (by omega)).symm, S⟩
    ·
      have hi := (isR_iff _ _).1 (by simpa using h4)
      refine RC.skip (RC.back ?_)
      refine RC.seq ?_
      refine RC.region rfl ?_
      refine RL.ev (.move rfl) rfl rfl ?_
      refine RL.ev (.assign rfl) rfl rfl ?_
      refine RL.nil (RC.back ?_)
      refine RC.done (rs := [.tmp 2]) (vs := [_]) rfl rfl ⟨rfl, trivial⟩ ?_
      -- end 3
      exact ⟨congrArg (Value.int .i64) (if_neg (by omega)).symm, S⟩
theorem ofR_U64 {p g : Int} (h : isR p g = true) : U64 (ofR p g) := by
  have hp := (isR_iff p g).1 h
  unfold U64 ofR; omega
theorem ofR_node {p g : Int} (h : isR p g = true) : nodeR (ofR p g) := by
  have hp := (isR_iff p g).1 h
  rw [nodeR_iff]; unfold ofR; omega
theorem placeR_of {p g : Int} (h : isR p g = true) : placeR (ofR p g) = p := by
  have hp := (isR_iff p g).1 h
  rw [placeR, if_pos (ofR_node h)]; unfold ofR; omega
theorem genR_of {p g : Int} (h : isR p g = true) : genR (ofR p g) = g := by
  have hp := (isR_iff p g).1 h
  rw [genR, if_pos (ofR_node h)]; unfold ofR; omega

theorem tmod_neg' (p m : Int) (h : p < 0) : p.tmod m = -((-p) % m) := by
  rw [← tmodE (a := -p) (by omega), Int.neg_tmod, Int.neg_neg]
theorem norm_mod (p m : Int) (hm : 0 < m) : -m < p.tmod m ∧ p.tmod m < m ∧ (p.tmod m + m).tmod m = p % m := by
  by_cases h : 0 ≤ p
  · have h1 := Int.emod_nonneg p (show m ≠ 0 by omega)
    have h2 := Int.emod_lt_of_pos p hm
    rw [tmodE h, tmodE (by omega), Int.add_emod_right, Int.emod_emod]
    omega
  · have h1 := Int.emod_nonneg (-p) (show m ≠ 0 by omega)
    have h2 := Int.emod_lt_of_pos (-p) hm
    rw [tmod_neg' p m (by omega), tmodE (by omega)]
    refine ⟨by omega, by omega, ?_⟩
    rw [Int.add_emod_right]
    have h3 := Int.emod_add_mul_ediv (-p) m
    have h4 : p = -((-p) % m) + m * (-((-p) / m)) := by rw [Int.mul_neg]; omega
    conv => rhs; rw [h4]
    rw [Int.add_mul_emod_self_left]

end Go.Proofs.Ytefakjhfcgjhgaa
