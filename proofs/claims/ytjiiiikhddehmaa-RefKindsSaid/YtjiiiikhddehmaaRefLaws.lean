/-
  The statements of the layer ref: each law's function returns true.
-/
import Derived.Test.YtjiiiikhddehmaaRef
import Derived.RowKit
set_option linter.unusedVariables false
set_option linter.unusedSimpArgs false
namespace Go.Proofs.Ytjiiiikhddehmaa
open Go Go.XL

theorem wf_u64 {a : Int} (h : (Lit.int .u64 a).wf = true) : U64 a := by
  simp [Lit.wf, IntKind.min, IntKind.max, IntKind.signed, IntKind.bits] at h
  unfold U64
  omega
theorem wf_i64 {a : Int} (h : (Lit.int .i64 a).wf = true) : I64 a := by
  simp [Lit.wf, IntKind.min, IntKind.max, IntKind.signed, IntKind.bits] at h
  unfold I64
  omega
theorem tmod_neg' (p m : Int) (h : p < 0) : p.tmod m = -((-p) % m) := by
  rw [← tmodE (a := -p) (by omega), Int.neg_tmod, Int.neg_neg]
theorem norm_mod (p m : Int) (hm : 0 < m) : -m < p.tmod m ∧ p.tmod m < m ∧ (p.tmod m + m).tmod m = p % m := by
  by_cases h : 0 ≤ p
  · have h1 := Int.emod_nonneg p (show m ≠ 0 by omega)
    have h2 := Int.emod_lt_of_pos p hm
    rw [tmodE h, tmodE (by omega), Int.add_emod_right, Int.emod_emod]
    omega
  · have h1 := Int.emod_nonneg (-p) (show m ≠ 0 by omega)
    have h2 := Int.emod_lt_of_pos (-p) hm
    rw [tmod_neg' p m (by omega), tmodE (by omega)]
    refine ⟨by omega, by omega, ?_⟩
    rw [Int.add_emod_right]
    have h3 := Int.emod_add_mul_ediv (-p) m
    have h4 : p = -((-p) % m) + m * (-((-p) / m)) := by rw [Int.mul_neg]; omega
    conv => rhs; rw [h4]
    rw [Int.add_mul_emod_self_left]

theorem c_alive3 (w : World) : FC Try.prog 24 [] w (Val (.bool true) w) := by
  refine FC.intro Try.func24 rfl Try.ntmps24 rfl ?_
  have S := Sub.refl w
  refine RC.seq ?_
  refine RC.region rfl ?_
  refine RL.ev (.assign rfl) rfl rfl ?_
  refine RL.nil (RC.back ?_)
  refine RC.seq ?_
  refine RC.region rfl ?_
  refine RL.call rfl ok21 (c_refOf' 2 1 rfl w) rfl rfl ?_
  rintro _ w1 ⟨rfl, s2⟩
  have S := S.trans s2
  refine RL.ev (.move rfl) rfl rfl ?_
  refine RL.ev (.extract rfl rfl) rfl rfl ?_
  refine RL.ev (.extract rfl rfl) rfl rfl ?_
  refine RL.ev (.assign rfl) rfl rfl ?_
  refine RL.ev (.assign rfl) rfl rfl ?_
  refine RL.nil (RC.back ?_)
  refine RC.seq ?_
  refine RC.region rfl ?_
  refine RL.ev (.move rfl) rfl rfl ?_
  refine RL.ev (.as (v' := .bool true) (.bin rfl rfl rfl) (congrArg Value.bool (decide_eq_true (rfl)))) rfl rfl ?_
  refine RL.ev (.move rfl) rfl rfl ?_
  refine RL.ev (.move rfl) rfl rfl ?_
  refine RL.ev (.as (v' := .bool true) (.bin rfl rfl rfl) (congrArg Value.bool (decide_eq_true (rfl)))) rfl rfl ?_
  refine RL.ev (.pick_t rfl rfl) rfl rfl ?_
  refine RL.ev (.move rfl) rfl rfl ?_
  refine RL.ev (.move rfl) rfl rfl ?_
  refine RL.call rfl ok27 (c_refPlace 65539 ⟨by decide, by decide⟩ w1) rfl rfl ?_
  rintro _ w3 ⟨rfl, s4⟩
  have S := S.trans s4
  refine RL.ev (.as (v' := .bool true) (.bin rfl rfl rfl) (congrArg Value.bool (decide_eq_true (by decide +kernel)))) rfl rfl ?_
  refine RL.ev (.pick_t rfl rfl) rfl rfl ?_
  refine RL.ev (.assign rfl) rfl rfl ?_
  refine RL.nil (RC.back ?_)
  refine RC.done (rs := [.tmp 0]) (vs := [_]) rfl rfl ⟨rfl, trivial⟩ ?_
  exact ⟨rfl, S⟩

theorem law_RefBack (a0 : Int) (w0 : (Lit.int .i64 a0).wf = true) (a1 : Int) (w1 : (Lit.int .i64 a1).wf = true) (a2 : Int) (w2 : (Lit.int .i64 a2).wf = true) (a3 : Int) (w3 : (Lit.int .i64 a3).wf = true) (w : World) : FC Try.prog 9 [.int .i64 a0, .int .i64 a1, .int .i64 a2, .int .i64 a3] w (Val (.bool true) w) := by
  have n0 := norm_mod a0 512 (by decide)
  have n1 := norm_mod a1 1048577 (by decide)
  have n2 := norm_mod a2 512 (by decide)
  have n3 := norm_mod a3 1048577 (by decide)
  have h1 : isR (a0 % 512) (a1 % 1048577) = true := (isR_iff _ _).2 (by omega)
  have h2 : isR (a2 % 512) (a3 % 1048577) = true := (isR_iff _ _).2 (by omega)
  refine FC.intro Try.func9 rfl Try.ntmps9 rfl ?_
  have S := Sub.refl w
  refine RC.seq ?_
  refine RC.region rfl ?_
  refine RL.ev (.assign rfl) rfl rfl ?_
  refine RL.nil (RC.back ?_)
  refine RC.seq ?_
  refine RC.region rfl ?_
  refine RL.ev (.move rfl) rfl rfl ?_
  refine RL.ev (.rem rfl rfl (by decide)) rfl rfl ?_
  refine RL.ev (.as (.bin rfl rfl rfl) (wi64 (y := a0.tmod 512 + 512) (by rfl) (by omega))) rfl rfl ?_
  refine RL.ev (.as (v' := .int .i64 (a0 % 512)) (.rem rfl rfl (by decide)) (by rw [n0.2.2])) rfl rfl ?_
  refine RL.ev (.move rfl) rfl rfl ?_
  refine RL.ev (.rem rfl rfl (by decide)) rfl rfl ?_
  refine RL.ev (.as (.bin rfl rfl rfl) (wi64 (y := a2.tmod 512 + 512) (by rfl) (by omega))) rfl rfl ?_
  refine RL.ev (.as (v' := .int .i64 (a2 % 512)) (.rem rfl rfl (by decide)) (by rw [n2.2.2])) rfl rfl ?_
  refine RL.ev (.assign rfl) rfl rfl ?_
  refine RL.ev (.assign rfl) rfl rfl ?_
  refine RL.nil (RC.back ?_)
  refine RC.seq ?_
  refine RC.region rfl ?_
  refine RL.ev (.move rfl) rfl rfl ?_
  refine RL.ev (.rem rfl rfl (by decide)) rfl rfl ?_
  refine RL.ev (.as (.bin rfl rfl rfl) (wi64 (y := a1.tmod 1048577 + 1048577) (by rfl) (by omega))) rfl rfl ?_
  refine RL.ev (.as (v' := .int .i64 (a1 % 1048577)) (.rem rfl rfl (by decide)) (by rw [n1.2.2])) rfl rfl ?_
  refine RL.ev (.move rfl) rfl rfl ?_
  refine RL.ev (.rem rfl rfl (by decide)) rfl rfl ?_
  refine RL.ev (.as (.bin rfl rfl rfl) (wi64 (y := a3.tmod 1048577 + 1048577) (by rfl) (by omega))) rfl rfl ?_
  refine RL.ev (.as (v' := .int .i64 (a3 % 1048577)) (.rem rfl rfl (by decide)) (by rw [n3.2.2])) rfl rfl ?_
  refine RL.ev (.assign rfl) rfl rfl ?_
  refine RL.ev (.assign rfl) rfl rfl ?_
  refine RL.nil (RC.back ?_)
  refine RC.seq ?_
  refine RC.region rfl ?_
  refine RL.ev (.move rfl) rfl rfl ?_
  refine RL.ev (.move rfl) rfl rfl ?_
  refine RL.call rfl ok21 (c_refOf' _ _ h1 w) rfl rfl ?_
  rintro _ w1 ⟨rfl, s2⟩
  have S := S.trans s2
  refine RL.ev (.move rfl) rfl rfl ?_
  refine RL.ev (.extract rfl rfl) rfl rfl ?_
  refine RL.ev (.extract rfl rfl) rfl rfl ?_
  refine RL.ev (.assign rfl) rfl rfl ?_
  refine RL.ev (.assign rfl) rfl rfl ?_
  refine RL.nil (RC.back ?_)
  refine RC.seq ?_
  refine RC.region rfl ?_
  refine RL.ev (.move rfl) rfl rfl ?_
  refine RL.ev (.move rfl) rfl rfl ?_
  refine RL.call rfl ok21 (c_refOf' _ _ h2 w1) rfl rfl ?_
  rintro _ w3 ⟨rfl, s4⟩
  have S := S.trans s4
  refine RL.ev (.move rfl) rfl rfl ?_
  refine RL.ev (.extract rfl rfl) rfl rfl ?_
  refine RL.ev (.extract rfl rfl) rfl rfl ?_
  refine RL.ev (.assign rfl) rfl rfl ?_
  refine RL.ev (.assign rfl) rfl rfl ?_
  refine RL.nil (RC.back ?_)
  refine RC.seq ?_
  refine RC.seq ?_
  refine RC.region rfl ?_
  refine RL.ev (.move rfl) rfl rfl ?_
  refine RL.ev (.as (v' := .bool false) (.bin rfl rfl rfl) (congrArg Value.bool (decide_eq_false (fun h => h rfl)))) rfl rfl ?_
  refine RL.ev (.move rfl) rfl rfl ?_
  refine RL.ev (.move rfl) rfl rfl ?_
  refine RL.ev (.as (v' := .bool false) (.bin rfl rfl rfl) (congrArg Value.bool (decide_eq_false (fun h => h rfl)))) rfl rfl ?_
  refine RL.ev (.pick_f rfl rfl) rfl rfl ?_
  refine RL.ev (.move rfl) rfl rfl ?_
  refine RL.call rfl ok24 (c_alive3 w3) rfl rfl ?_
  rintro _ w5 ⟨rfl, s6⟩
  have S := S.trans s6
  refine RL.ev (.not rfl) rfl rfl ?_
  refine RL.ev (.pick_f rfl rfl) rfl rfl ?_
  refine RL.nil (RC.back ?_)
  refine RC.cond_f rfl ?_
  refine RC.skip (RC.back ?_)
  refine RC.seq ?_
  refine RC.region rfl ?_
  refine RL.ev (.move rfl) rfl rfl ?_
  refine RL.call rfl ok27 (c_refPlace _ (ofR_U64 h1) w5) rfl rfl ?_
  rintro _ w7 ⟨rfl, s8⟩
  have S := S.trans s8
  refine RL.ev (.move rfl) rfl rfl ?_
  refine RL.ev (.as (v' := .bool true) (.bin rfl rfl rfl) (congrArg Value.bool (decide_eq_true (placeR_of h1)))) rfl rfl ?_
  refine RL.ev (.move rfl) rfl rfl ?_
  refine RL.ev (.move rfl) rfl rfl ?_
  refine RL.call rfl ok28 (c_refGen _ (ofR_U64 h1) w7) rfl rfl ?_
  rintro _ w9 ⟨rfl, s10⟩
  have S := S.trans s10
  refine RL.ev (.move rfl) rfl rfl ?_
  refine RL.ev (.as (v' := .bool true) (.bin rfl rfl rfl) (congrArg Value.bool (decide_eq_true (genR_of h1)))) rfl rfl ?_
  refine RL.ev (.pick_t rfl rfl) rfl rfl ?_
  refine RL.ev (.move rfl) rfl rfl ?_
  refine RL.ev (.move rfl) rfl rfl ?_
  refine RL.call rfl ok26 (((ofR_node h1).2 ▸ c_refRight _ (ofR_U64 h1) w9)) rfl rfl ?_
  rintro _ w11 ⟨rfl, s12⟩
  have S := S.trans s12
  refine RL.ev (.pick_t rfl rfl) rfl rfl ?_
  refine RL.ev (.move rfl) rfl rfl ?_
  refine RL.ev (.move rfl) rfl rfl ?_
  refine RL.ev (.as (v' := .bool true) (.bin rfl rfl rfl) (congrArg Value.bool (decide_eq_true ((ofR_node h1).1)))) rfl rfl ?_
  refine RL.ev (.pick_t rfl rfl) rfl rfl ?_
  refine RL.ev (.move rfl) rfl rfl ?_
  refine RL.ev (.move rfl) rfl rfl ?_
  refine RL.ev (.move rfl) rfl rfl ?_
  refine RL.ev (.bin rfl rfl rfl) rfl rfl ?_
  refine RL.ev (.move rfl) rfl rfl ?_
  refine RL.ev (.move rfl) rfl rfl ?_
  refine RL.ev (.bin rfl rfl rfl) rfl rfl ?_
  refine RL.ev (.move rfl) rfl rfl ?_
  refine RL.split 76 rfl (fun h13 => ?_) (fun h13 => ?_)
  ·
    refine RL.ev (.move rfl) rfl rfl ?_
    refine RL.ev (.move rfl) rfl rfl ?_
    refine RL.ev (.bin rfl rfl rfl) rfl rfl ?_
    refine RL.ev (.pick_t rfl rfl) rfl rfl ?_
    refine RL.ev (.as (v' := .bool true) (.eqB bo4 rfl rfl) (congrArg Value.bool (beq_iff_eq.2 (decide_eq_decide.2 (by unfold ofR; omega))))) rfl rfl ?_
    refine RL.ev (.pick_t rfl rfl) rfl rfl ?_
    refine RL.ev (.assign rfl) rfl rfl ?_
    refine RL.nil (RC.back ?_)
    refine RC.done (rs := [.tmp 8]) (vs := [_]) rfl rfl ⟨rfl, trivial⟩ ?_
    first | exact ⟨rfl, S⟩ | skip
  ·
    refine RL.off rfl rfl ?_
    refine RL.off rfl rfl ?_
    refine RL.off rfl rfl ?_
    refine RL.ev (.pick_f rfl rfl) rfl rfl ?_
    refine RL.ev (.as (v' := .bool true) (.eqB bo4 rfl rfl) (congrArg Value.bool (beq_iff_eq.2 (decide_eq_false (by unfold ofR; omega))))) rfl rfl ?_
    refine RL.ev (.pick_t rfl rfl) rfl rfl ?_
    refine RL.ev (.assign rfl) rfl rfl ?_
    refine RL.nil (RC.back ?_)
    refine RC.done (rs := [.tmp 8]) (vs := [_]) rfl rfl ⟨rfl, trivial⟩ ?_
    first | exact ⟨rfl, S⟩ | skip

theorem law_RefKinds (a0 : Int) (w0 : (Lit.int .i64 a0).wf = true) (a1 : Int) (w1 : (Lit.int .i64 a1).wf = true) (w : World) : FC Try.prog 10 [.int .i64 a0, .int .i64 a1] w (Val (.bool true) w) := by
  have n0 := norm_mod a0 512 (by decide)
  have n1 := norm_mod a1 1048576 (by decide)
  have h1 : isR (a0 % 512) (a1 % 1048576) = true := (isR_iff _ _).2 (by omega)
  have h2 : isR (a0 % 512) (a1 % 1048576 + 1) = true := (isR_iff _ _).2 (by omega)
  refine FC.intro Try.func10 rfl Try.ntmps10 rfl ?_
  have S := Sub.refl w
  refine RC.seq ?_
  refine RC.region rfl ?_
  refine RL.ev (.assign rfl) rfl rfl ?_
  refine RL.nil (RC.back ?_)
  refine RC.seq ?_
  refine RC.region rfl ?_
  refine RL.ev (.move rfl) rfl rfl ?_
  refine RL.ev (.rem rfl rfl (by decide)) rfl rfl ?_
  refine RL.ev (.as (.bin rfl rfl rfl) (wi64 (y := a0.tmod 512 + 512) (by rfl) (by omega))) rfl rfl ?_
  refine RL.ev (.as (v' := .int .i64 (a0 % 512)) (.rem rfl rfl (by decide)) (by rw [n0.2.2])) rfl rfl ?_
  refine RL.ev (.move rfl) rfl rfl ?_
  refine RL.ev (.rem rfl rfl (by decide)) rfl rfl ?_
  refine RL.ev (.as (.bin rfl rfl rfl) (wi64 (y := a1.tmod 1048576 + 1048576) (by rfl) (by omega))) rfl rfl ?_
  refine RL.ev (.as (v' := .int .i64 (a1 % 1048576)) (.rem rfl rfl (by decide)) (by rw [n1.2.2])) rfl rfl ?_
  refine RL.ev (.assign rfl) rfl rfl ?_
  refine RL.ev (.assign rfl) rfl rfl ?_
  refine RL.nil (RC.back ?_)
  refine RC.seq ?_
  refine RC.region rfl ?_
  refine RL.ev (.move rfl) rfl rfl ?_
  refine RL.ev (.move rfl) rfl rfl ?_
  refine RL.call rfl ok21 (c_refOf' _ _ h1 w) rfl rfl ?_
  rintro _ w1 ⟨rfl, s2⟩
  have S := S.trans s2
  refine RL.ev (.move rfl) rfl rfl ?_
  refine RL.ev (.extract rfl rfl) rfl rfl ?_
  refine RL.ev (.extract rfl rfl) rfl rfl ?_
  refine RL.ev (.assign rfl) rfl rfl ?_
  refine RL.ev (.assign rfl) rfl rfl ?_
  refine RL.nil (RC.back ?_)
  refine RC.seq ?_
  refine RC.region rfl ?_
  refine RL.ev (.move rfl) rfl rfl ?_
  refine RL.ev (.move rfl) rfl rfl ?_
  refine RL.ev (.as (.bin rfl rfl rfl) (wi64 (y := a1 % 1048576 + 1) (by rfl) (by omega))) rfl rfl ?_
  refine RL.call rfl ok21 (c_refOf' _ _ h2 w1) rfl rfl ?_
  rintro _ w3 ⟨rfl, s4⟩
  have S := S.trans s4
  refine RL.ev (.move rfl) rfl rfl ?_
  refine RL.ev (.extract rfl rfl) rfl rfl ?_
  refine RL.ev (.extract rfl rfl) rfl rfl ?_
  refine RL.ev (.assign rfl) rfl rfl ?_
  refine RL.ev (.assign rfl) rfl rfl ?_
  refine RL.nil (RC.back ?_)
  refine RC.seq ?_
  refine RC.region rfl ?_
  refine RL.call rfl ok24 (c_alive3 w3) rfl rfl ?_
  rintro _ w5 ⟨rfl, s6⟩
  have S := S.trans s6
  refine RL.ev (.move rfl) rfl rfl ?_
  refine RL.ev (.move rfl) rfl rfl ?_
  refine RL.ev (.as (v' := .bool true) (.bin rfl rfl rfl) (congrArg Value.bool (decide_eq_true (rfl)))) rfl rfl ?_
  refine RL.ev (.pick_t rfl rfl) rfl rfl ?_
  refine RL.ev (.move rfl) rfl rfl ?_
  refine RL.ev (.move rfl) rfl rfl ?_
  refine RL.ev (.as (v' := .bool true) (.bin rfl rfl rfl) (congrArg Value.bool (decide_eq_true (rfl)))) rfl rfl ?_
  refine RL.ev (.pick_t rfl rfl) rfl rfl ?_
  refine RL.ev (.move rfl) rfl rfl ?_
  refine RL.ev (.move rfl) rfl rfl ?_
  refine RL.ev (.move rfl) rfl rfl ?_
  refine RL.ev (.as (v' := .bool true) (.bin rfl rfl rfl) (congrArg Value.bool (decide_eq_true (by unfold ofR; omega)))) rfl rfl ?_
  refine RL.ev (.pick_t rfl rfl) rfl rfl ?_
  refine RL.ev (.move rfl) rfl rfl ?_
  refine RL.ev (.move rfl) rfl rfl ?_
  refine RL.ev (.move rfl) rfl rfl ?_
  refine RL.ev (.as (.bin rfl rfl rfl) (wu64 (y := 65536) (by unfold ofR; omega) (by omega))) rfl rfl ?_
  refine RL.ev (.as (v' := .bool true) (.bin rfl rfl rfl) (congrArg Value.bool (decide_eq_true (rfl)))) rfl rfl ?_
  refine RL.ev (.pick_t rfl rfl) rfl rfl ?_
  refine RL.ev (.move rfl) rfl rfl ?_
  refine RL.ev (.move rfl) rfl rfl ?_
  refine RL.call rfl ok27 (c_refPlace _ (ofR_U64 h1) w5) rfl rfl ?_
  rintro _ w7 ⟨rfl, s8⟩
  have S := S.trans s8
  refine RL.ev (.move rfl) rfl rfl ?_
  refine RL.call rfl ok27 (c_refPlace _ (ofR_U64 h2) w7) rfl rfl ?_
  rintro _ w9 ⟨rfl, s10⟩
  have S := S.trans s10
  refine RL.ev (.as (v' := .bool true) (.bin rfl rfl rfl) (congrArg Value.bool (decide_eq_true ((placeR_of h1).trans (placeR_of h2).symm)))) rfl rfl ?_
  refine RL.ev (.pick_t rfl rfl) rfl rfl ?_
  refine RL.ev (.move rfl) rfl rfl ?_
  refine RL.ev (.move rfl) rfl rfl ?_
  refine RL.call rfl ok28 (c_refGen _ (ofR_U64 h2) w9) rfl rfl ?_
  rintro _ w11 ⟨rfl, s12⟩
  have S := S.trans s12
  refine RL.ev (.move rfl) rfl rfl ?_
  refine RL.ev (.as (.bin rfl rfl rfl) (wi64 (y := a1 % 1048576 + 1) (by rfl) (by omega))) rfl rfl ?_
  refine RL.ev (.as (v' := .bool true) (.bin rfl rfl rfl) (congrArg Value.bool (decide_eq_true (genR_of h2)))) rfl rfl ?_
  refine RL.ev (.pick_t rfl rfl) rfl rfl ?_
  refine RL.ev (.move rfl) rfl rfl ?_
  refine RL.call rfl ok26 (c_refRight 0 ⟨by decide, by decide⟩ w11) rfl rfl ?_
  rintro _ w13 ⟨rfl, s14⟩
  have S := S.trans s14
  refine RL.ev (.pick_t rfl rfl) rfl rfl ?_
  refine RL.ev (.move rfl) rfl rfl ?_
  refine RL.call rfl ok27 (c_refPlace 0 ⟨by decide, by decide⟩ w13) rfl rfl ?_
  rintro _ w15 ⟨rfl, s16⟩
  have S := S.trans s16
  refine RL.ev (.as (v' := .bool true) (.bin rfl rfl rfl) (congrArg Value.bool (decide_eq_true (by decide +kernel)))) rfl rfl ?_
  refine RL.ev (.pick_t rfl rfl) rfl rfl ?_
  refine RL.ev (.assign rfl) rfl rfl ?_
  refine RL.nil (RC.back ?_)
  refine RC.done (rs := [.tmp 4]) (vs := [_]) rfl rfl ⟨rfl, trivial⟩ ?_
  exact ⟨rfl, S⟩

theorem gen3_neg {r : Int} (hr : U64 r) : gen3 r < 0 ↔ (r % 65536 = 0 ∨ r % 65536 > 512 ∨ r / 65536 > 1048576) := by
  unfold U64 at hr
  unfold gen3
  split <;> omega

theorem law_RefTells (a0 : Int) (w0 : (Lit.int .i64 a0).wf = true) (a1 : Int) (w1 : (Lit.int .i64 a1).wf = true) (a2 : Int) (w2 : (Lit.int .u64 a2).wf = true) (w : World) : FC Try.prog 8 [.int .i64 a0, .int .i64 a1, .int .u64 a2] w (Val (.bool true) w) := by
  have hr := wf_u64 w2
  have hg := gen3_neg hr
  by_cases hn : a2 = 0 ∨ gen3 a2 < 0
  · have e1 : rightR a2 = decide (a2 = 0) := by
      unfold rightR
      rw [decide_eq_decide]
      unfold U64 at hr
      omega
    have e2 : placeR a2 = -1 := if_neg (by rw [nodeR_iff]; omega)
    have e3 : genR a2 = 0 := if_neg (by rw [nodeR_iff]; omega)
    by_cases h : isR a0 a1 = true
    ·
      refine FC.intro Try.func8 rfl Try.ntmps8 rfl ?_
      have S := Sub.refl w
      refine RC.seq ?_
      refine RC.region rfl ?_
      refine RL.ev (.assign rfl) rfl rfl ?_
      refine RL.nil (RC.back ?_)
      refine RC.seq ?_
      refine RC.region rfl ?_
      refine RL.ev (.move rfl) rfl rfl ?_
      refine RL.ev (.move rfl) rfl rfl ?_
      refine RL.call rfl ok21 (c_refOf' _ _ h w) rfl rfl ?_
      rintro _ w1 ⟨rfl, s2⟩
      have S := S.trans s2
      refine RL.ev (.move rfl) rfl rfl ?_
      refine RL.ev (.extract rfl rfl) rfl rfl ?_
      refine RL.ev (.extract rfl rfl) rfl rfl ?_
      refine RL.ev (.assign rfl) rfl rfl ?_
      refine RL.ev (.assign rfl) rfl rfl ?_
      refine RL.nil (RC.back ?_)
      refine RC.seq ?_
      refine RC.seq ?_
      refine RC.region rfl ?_
      refine RL.ev (.move rfl) rfl rfl ?_
      refine RL.ev (.move rfl) rfl rfl ?_
      refine RL.call rfl ok22 ((h ▸ c_r3Is a0 a1 w1)) rfl rfl ?_
      rintro _ w3 ⟨rfl, s4⟩
      have S := S.trans s4
      refine RL.ev (.move rfl) rfl rfl ?_
      refine RL.ev (.move rfl) rfl rfl ?_
      refine RL.ev (.as (v' := .bool false) (.bin rfl rfl rfl) (congrArg Value.bool (decide_eq_false (fun h => h rfl)))) rfl rfl ?_
      refine RL.ev (.move rfl) rfl rfl ?_
      refine RL.ev (.move rfl) rfl rfl ?_
      refine RL.ev (.move rfl) rfl rfl ?_
      refine RL.ev (.move rfl) rfl rfl ?_
      refine RL.call rfl ok23 (c_r3Of _ _ h w3) rfl rfl ?_
      rintro _ w5 ⟨rfl, s6⟩
      have S := S.trans s6
      refine RL.ev (.as (v' := .bool false) (.bin rfl rfl rfl) (congrArg Value.bool (decide_eq_false (fun h => h rfl)))) rfl rfl ?_
      refine RL.ev (.pick_f rfl rfl) rfl rfl ?_
      refine RL.ev (.pick_t rfl rfl) rfl rfl ?_
      refine RL.ev (.move rfl) rfl rfl ?_
      refine RL.ev (.move rfl) rfl rfl ?_
      refine RL.ev (.move rfl) rfl rfl ?_
      refine RL.call rfl ok22 ((h ▸ c_r3Is a0 a1 w5)) rfl rfl ?_
      rintro _ w7 ⟨rfl, s8⟩
      have S := S.trans s8
      refine RL.ev (.not rfl) rfl rfl ?_
      refine RL.ev (.move rfl) rfl rfl ?_
      refine RL.off rfl rfl ?_
      refine RL.off rfl rfl ?_
      refine RL.off rfl rfl ?_
      refine RL.off rfl rfl ?_
      refine RL.off rfl rfl ?_
      refine RL.off rfl rfl ?_
      refine RL.ev (.pick_f rfl rfl) rfl rfl ?_
      refine RL.ev (.pick_f rfl rfl) rfl rfl ?_
      refine RL.ev (.move rfl) rfl rfl ?_
      refine RL.call rfl ok24 (c_alive3 w7) rfl rfl ?_
      rintro _ w9 ⟨rfl, s10⟩
      have S := S.trans s10
      refine RL.ev (.not rfl) rfl rfl ?_
      refine RL.ev (.pick_f rfl rfl) rfl rfl ?_
      refine RL.nil (RC.back ?_)
      refine RC.cond_f rfl ?_
      refine RC.skip (RC.back ?_)
      refine RC.seq ?_
      refine RC.region rfl ?_
      refine RL.ev (.move rfl) rfl rfl ?_
      refine RL.call rfl ok25 (c_r3Gen _ hr w9) rfl rfl ?_
      rintro _ w11 ⟨rfl, s12⟩
      have S := S.trans s12
      refine RL.ev (.assign rfl) rfl rfl ?_
      refine RL.nil (RC.back ?_)
      refine RC.seq ?_
      refine RC.seq ?_
      refine RC.region rfl ?_
      refine RL.ev (.move rfl) rfl rfl ?_
      refine RL.ev (.bin rfl rfl rfl) rfl rfl ?_
      refine RL.ev (.move rfl) rfl rfl ?_
      refine RL.split 52 rfl (fun h13 => ?_) (fun h13 => ?_)
      ·
        refine RL.off rfl rfl ?_
        refine RL.off rfl rfl ?_
        refine RL.ev (.pick_t rfl rfl) rfl rfl ?_
        refine RL.nil (RC.back ?_)
        refine RC.cond_t rfl ?_
        refine RC.seq ?_
        refine RC.region rfl ?_
        refine RL.ev (.move rfl) rfl rfl ?_
        refine RL.call rfl ok26 (c_refRight _ hr w11) rfl rfl ?_
        rintro _ w14 ⟨rfl, s15⟩
        have S := S.trans s15
        refine RL.ev (.move rfl) rfl rfl ?_
        refine RL.ev (.bin rfl rfl rfl) rfl rfl ?_
        refine RL.ev (.as (v' := .bool true) (.eqB bo4 rfl rfl) (congrArg Value.bool (beq_iff_eq.2 e1))) rfl rfl ?_
        refine RL.ev (.move rfl) rfl rfl ?_
        refine RL.ev (.move rfl) rfl rfl ?_
        refine RL.call rfl ok27 (c_refPlace _ hr w14) rfl rfl ?_
        rintro _ w16 ⟨rfl, s17⟩
        have S := S.trans s17
        refine RL.ev (.as (v' := .bool true) (.bin rfl rfl rfl) (congrArg Value.bool (decide_eq_true (e2)))) rfl rfl ?_
        refine RL.ev (.pick_t rfl rfl) rfl rfl ?_
        refine RL.ev (.move rfl) rfl rfl ?_
        refine RL.ev (.move rfl) rfl rfl ?_
        refine RL.call rfl ok28 (c_refGen _ hr w16) rfl rfl ?_
        rintro _ w18 ⟨rfl, s19⟩
        have S := S.trans s19
        refine RL.ev (.as (v' := .bool true) (.bin rfl rfl rfl) (congrArg Value.bool (decide_eq_true (e3)))) rfl rfl ?_
        refine RL.ev (.pick_t rfl rfl) rfl rfl ?_
        refine RL.ev (.assign rfl) rfl rfl ?_
        refine RL.nil (RC.back ?_)
        refine RC.done (rs := [.tmp 6]) (vs := [_]) rfl rfl ⟨rfl, trivial⟩ ?_
        exact ⟨rfl, S⟩
      ·
        refine RL.ev (.move rfl) rfl rfl ?_
        refine RL.ev (.bin rfl rfl rfl) rfl rfl ?_
        refine RL.ev (.pick_f rfl rfl) rfl rfl ?_
        refine RL.nil (RC.back ?_)
        refine RC.cond_dec rfl (fun h20 => ?_) (fun h20 => ?_)
        ·
          refine RC.seq ?_
          refine RC.region rfl ?_
          refine RL.ev (.move rfl) rfl rfl ?_
          refine RL.call rfl ok26 (c_refRight _ hr w11) rfl rfl ?_
          rintro _ w21 ⟨rfl, s22⟩
          have S := S.trans s22
          refine RL.ev (.move rfl) rfl rfl ?_
          refine RL.ev (.bin rfl rfl rfl) rfl rfl ?_
          refine RL.ev (.as (v' := .bool true) (.eqB bo4 rfl rfl) (congrArg Value.bool (beq_iff_eq.2 e1))) rfl rfl ?_
          refine RL.ev (.move rfl) rfl rfl ?_
          refine RL.ev (.move rfl) rfl rfl ?_
          refine RL.call rfl ok27 (c_refPlace _ hr w21) rfl rfl ?_
          rintro _ w23 ⟨rfl, s24⟩
          have S := S.trans s24
          refine RL.ev (.as (v' := .bool true) (.bin rfl rfl rfl) (congrArg Value.bool (decide_eq_true (e2)))) rfl rfl ?_
          refine RL.ev (.pick_t rfl rfl) rfl rfl ?_
          refine RL.ev (.move rfl) rfl rfl ?_
          refine RL.ev (.move rfl) rfl rfl ?_
          refine RL.call rfl ok28 (c_refGen _ hr w23) rfl rfl ?_
          rintro _ w25 ⟨rfl, s26⟩
          have S := S.trans s26
          refine RL.ev (.as (v' := .bool true) (.bin rfl rfl rfl) (congrArg Value.bool (decide_eq_true (e3)))) rfl rfl ?_
          refine RL.ev (.pick_t rfl rfl) rfl rfl ?_
          refine RL.ev (.assign rfl) rfl rfl ?_
          refine RL.nil (RC.back ?_)
          refine RC.done (rs := [.tmp 6]) (vs := [_]) rfl rfl ⟨rfl, trivial⟩ ?_
          exact ⟨rfl, S⟩
        ·
          exact absurd hn (by omega)
    · have h' : isR a0 a1 = false := by simpa using h
      refine FC.intro Try.func8 rfl Try.ntmps8 rfl ?_
      have S := Sub.refl w
      refine RC.seq ?_
      refine RC.region rfl ?_
      refine RL.ev (.assign rfl) rfl rfl ?_
      refine RL.nil (RC.back ?_)
      refine RC.seq ?_
      refine RC.region rfl ?_
      refine RL.ev (.move rfl) rfl rfl ?_
      refine RL.ev (.move rfl) rfl rfl ?_
      refine RL.call rfl ok21 (c_refOf_no _ _ h w) rfl rfl ?_
      rintro _ w1 ⟨rfl, s2⟩
      have S := S.trans s2
      refine RL.ev (.move rfl) rfl rfl ?_
      refine RL.ev (.extract rfl rfl) rfl rfl ?_
      refine RL.ev (.extract rfl rfl) rfl rfl ?_
      refine RL.ev (.assign rfl) rfl rfl ?_
      refine RL.ev (.assign rfl) rfl rfl ?_
      refine RL.nil (RC.back ?_)
      refine RC.seq ?_
      refine RC.seq ?_
      refine RC.region rfl ?_
      refine RL.ev (.move rfl) rfl rfl ?_
      refine RL.ev (.move rfl) rfl rfl ?_
      refine RL.call rfl ok22 ((h' ▸ c_r3Is a0 a1 w1)) rfl rfl ?_
      rintro _ w3 ⟨rfl, s4⟩
      have S := S.trans s4
      refine RL.ev (.move rfl) rfl rfl ?_
      refine RL.off rfl rfl ?_
      refine RL.off rfl rfl ?_
      refine RL.off rfl rfl ?_
      refine RL.off rfl rfl ?_
      refine RL.off rfl rfl ?_
      refine RL.off rfl rfl ?_
      refine RL.off rfl rfl ?_
      refine RL.off rfl rfl ?_
      refine RL.off rfl rfl ?_
      refine RL.ev (.pick_f rfl rfl) rfl rfl ?_
      refine RL.ev (.move rfl) rfl rfl ?_
      refine RL.ev (.move rfl) rfl rfl ?_
      refine RL.ev (.move rfl) rfl rfl ?_
      refine RL.call rfl ok22 ((h' ▸ c_r3Is a0 a1 w3)) rfl rfl ?_
      rintro _ w5 ⟨rfl, s6⟩
      have S := S.trans s6
      refine RL.ev (.not rfl) rfl rfl ?_
      refine RL.ev (.move rfl) rfl rfl ?_
      refine RL.ev (.move rfl) rfl rfl ?_
      refine RL.ev (.as (v' := .bool false) (.bin rfl rfl rfl) (congrArg Value.bool (decide_eq_false (fun h => h rfl)))) rfl rfl ?_
      refine RL.ev (.move rfl) rfl rfl ?_
      refine RL.ev (.move rfl) rfl rfl ?_
      refine RL.ev (.as (v' := .bool false) (.bin rfl rfl rfl) (congrArg Value.bool (decide_eq_false (fun h => h rfl)))) rfl rfl ?_
      refine RL.ev (.pick_f rfl rfl) rfl rfl ?_
      refine RL.ev (.pick_t rfl rfl) rfl rfl ?_
      refine RL.ev (.pick_f rfl rfl) rfl rfl ?_
      refine RL.ev (.move rfl) rfl rfl ?_
      refine RL.call rfl ok24 (c_alive3 w5) rfl rfl ?_
      rintro _ w7 ⟨rfl, s8⟩
      have S := S.trans s8
      refine RL.ev (.not rfl) rfl rfl ?_
      refine RL.ev (.pick_f rfl rfl) rfl rfl ?_
      refine RL.nil (RC.back ?_)
      refine RC.cond_f rfl ?_
      refine RC.skip (RC.back ?_)
      refine RC.seq ?_
      refine RC.region rfl ?_
      refine RL.ev (.move rfl) rfl rfl ?_
      refine RL.call rfl ok25 (c_r3Gen _ hr w7) rfl rfl ?_
      rintro _ w9 ⟨rfl, s10⟩
      have S := S.trans s10
      refine RL.ev (.assign rfl) rfl rfl ?_
      refine RL.nil (RC.back ?_)
      refine RC.seq ?_
      refine RC.seq ?_
      refine RC.region rfl ?_
      refine RL.ev (.move rfl) rfl rfl ?_
      refine RL.ev (.bin rfl rfl rfl) rfl rfl ?_
      refine RL.ev (.move rfl) rfl rfl ?_
      refine RL.split 52 rfl (fun h11 => ?_) (fun h11 => ?_)
      ·
        refine RL.off rfl rfl ?_
        refine RL.off rfl rfl ?_
        refine RL.ev (.pick_t rfl rfl) rfl rfl ?_
        refine RL.nil (RC.back ?_)
        refine RC.cond_t rfl ?_
        refine RC.seq ?_
        refine RC.region rfl ?_
        refine RL.ev (.move rfl) rfl rfl ?_
        refine RL.call rfl ok26 (c_refRight _ hr w9) rfl rfl ?_
        rintro _ w12 ⟨rfl, s13⟩
        have S := S.trans s13
        refine RL.ev (.move rfl) rfl rfl ?_
        refine RL.ev (.bin rfl rfl rfl) rfl rfl ?_
        refine RL.ev (.as (v' := .bool true) (.eqB bo4 rfl rfl) (congrArg Value.bool (beq_iff_eq.2 e1))) rfl rfl ?_
        refine RL.ev (.move rfl) rfl rfl ?_
        refine RL.ev (.move rfl) rfl rfl ?_
        refine RL.call rfl ok27 (c_refPlace _ hr w12) rfl rfl ?_
        rintro _ w14 ⟨rfl, s15⟩
        have S := S.trans s15
        refine RL.ev (.as (v' := .bool true) (.bin rfl rfl rfl) (congrArg Value.bool (decide_eq_true (e2)))) rfl rfl ?_
        refine RL.ev (.pick_t rfl rfl) rfl rfl ?_
        refine RL.ev (.move rfl) rfl rfl ?_
        refine RL.ev (.move rfl) rfl rfl ?_
        refine RL.call rfl ok28 (c_refGen _ hr w14) rfl rfl ?_
        rintro _ w16 ⟨rfl, s17⟩
        have S := S.trans s17
        refine RL.ev (.as (v' := .bool true) (.bin rfl rfl rfl) (congrArg Value.bool (decide_eq_true (e3)))) rfl rfl ?_
        refine RL.ev (.pick_t rfl rfl) rfl rfl ?_
        refine RL.ev (.assign rfl) rfl rfl ?_
        refine RL.nil (RC.back ?_)
        refine RC.done (rs := [.tmp 6]) (vs := [_]) rfl rfl ⟨rfl, trivial⟩ ?_
        exact ⟨rfl, S⟩
      ·
        refine RL.ev (.move rfl) rfl rfl ?_
        refine RL.ev (.bin rfl rfl rfl) rfl rfl ?_
        refine RL.ev (.pick_f rfl rfl) rfl rfl ?_
        refine RL.nil (RC.back ?_)
        refine RC.cond_dec rfl (fun h18 => ?_) (fun h18 => ?_)
        ·
          refine RC.seq ?_
          refine RC.region rfl ?_
          refine RL.ev (.move rfl) rfl rfl ?_
          refine RL.call rfl ok26 (c_refRight _ hr w9) rfl rfl ?_
          rintro _ w19 ⟨rfl, s20⟩
          have S := S.trans s20
          refine RL.ev (.move rfl) rfl rfl ?_
          refine RL.ev (.bin rfl rfl rfl) rfl rfl ?_
          refine RL.ev (.as (v' := .bool true) (.eqB bo4 rfl rfl) (congrArg Value.bool (beq_iff_eq.2 e1))) rfl rfl ?_
          refine RL.ev (.move rfl) rfl rfl ?_
          refine RL.ev (.move rfl) rfl rfl ?_
          refine RL.call rfl ok27 (c_refPlace _ hr w19) rfl rfl ?_
          rintro _ w21 ⟨rfl, s22⟩
          have S := S.trans s22
          refine RL.ev (.as (v' := .bool true) (.bin rfl rfl rfl) (congrArg Value.bool (decide_eq_true (e2)))) rfl rfl ?_
          refine RL.ev (.pick_t rfl rfl) rfl rfl ?_
          refine RL.ev (.move rfl) rfl rfl ?_
          refine RL.ev (.move rfl) rfl rfl ?_
          refine RL.call rfl ok28 (c_refGen _ hr w21) rfl rfl ?_
          rintro _ w23 ⟨rfl, s24⟩
          have S := S.trans s24
          refine RL.ev (.as (v' := .bool true) (.bin rfl rfl rfl) (congrArg Value.bool (decide_eq_true (e3)))) rfl rfl ?_
          refine RL.ev (.pick_t rfl rfl) rfl rfl ?_
          refine RL.ev (.assign rfl) rfl rfl ?_
          refine RL.nil (RC.back ?_)
          refine RC.done (rs := [.tmp 6]) (vs := [_]) rfl rfl ⟨rfl, trivial⟩ ?_
          exact ⟨rfl, S⟩
        ·
          exact absurd hn (by omega)
  · have hnode : nodeR a2 := (nodeR_iff a2).2 (by unfold U64 at hr; omega)
    have e2 : placeR a2 = a2 % 65536 - 1 := if_pos hnode
    have e3 : genR a2 = gen3 a2 := by
      rw [genR, if_pos hnode, gen3, if_neg (by omega)]
    have hr' := hr
    unfold U64 at hr'
    by_cases h : isR a0 a1 = true
    ·
      refine FC.intro Try.func8 rfl Try.ntmps8 rfl ?_
      have S := Sub.refl w
      refine RC.seq ?_
      refine RC.region rfl ?_
      refine RL.ev (.assign rfl) rfl rfl ?_
      refine RL.nil (RC.back ?_)
      refine RC.seq ?_
      refine RC.region rfl ?_
      refine RL.ev (.move rfl) rfl rfl ?_
      refine RL.ev (.move rfl) rfl rfl ?_
      refine RL.call rfl ok21 (c_refOf' _ _ h w) rfl rfl ?_
      rintro _ w1 ⟨rfl, s2⟩
      have S := S.trans s2
      refine RL.ev (.move rfl) rfl rfl ?_
      refine RL.ev (.extract rfl rfl) rfl rfl ?_
      refine RL.ev (.extract rfl rfl) rfl rfl ?_
      refine RL.ev (.assign rfl) rfl rfl ?_
      refine RL.ev (.assign rfl) rfl rfl ?_
      refine RL.nil (RC.back ?_)
      refine RC.seq ?_
      refine RC.seq ?_
      refine RC.region rfl ?_
      refine RL.ev (.move rfl) rfl rfl ?_
      refine RL.ev (.move rfl) rfl rfl ?_
      refine RL.call rfl ok22 ((h ▸ c_r3Is a0 a1 w1)) rfl rfl ?_
      rintro _ w3 ⟨rfl, s4⟩
      have S := S.trans s4
      refine RL.ev (.move rfl) rfl rfl ?_
      refine RL.ev (.move rfl) rfl rfl ?_
      refine RL.ev (.as (v' := .bool false) (.bin rfl rfl rfl) (congrArg Value.bool (decide_eq_false (fun h => h rfl)))) rfl rfl ?_
      refine RL.ev (.move rfl) rfl rfl ?_
      refine RL.ev (.move rfl) rfl rfl ?_
      refine RL.ev (.move rfl) rfl rfl ?_
      refine RL.ev (.move rfl) rfl rfl ?_
      refine RL.call rfl ok23 (c_r3Of _ _ h w3) rfl rfl ?_
      rintro _ w5 ⟨rfl, s6⟩
      have S := S.trans s6
      refine RL.ev (.as (v' := .bool false) (.bin rfl rfl rfl) (congrArg Value.bool (decide_eq_false (fun h => h rfl)))) rfl rfl ?_
      refine RL.ev (.pick_f rfl rfl) rfl rfl ?_
      refine RL.ev (.pick_t rfl rfl) rfl rfl ?_
      refine RL.ev (.move rfl) rfl rfl ?_
      refine RL.ev (.move rfl) rfl rfl ?_
      refine RL.ev (.move rfl) rfl rfl ?_
      refine RL.call rfl ok22 ((h ▸ c_r3Is a0 a1 w5)) rfl rfl ?_
      rintro _ w7 ⟨rfl, s8⟩
      have S := S.trans s8
      refine RL.ev (.not rfl) rfl rfl ?_
      refine RL.ev (.move rfl) rfl rfl ?_
      refine RL.off rfl rfl ?_
      refine RL.off rfl rfl ?_
      refine RL.off rfl rfl ?_
      refine RL.off rfl rfl ?_
      refine RL.off rfl rfl ?_
      refine RL.off rfl rfl ?_
      refine RL.ev (.pick_f rfl rfl) rfl rfl ?_
      refine RL.ev (.pick_f rfl rfl) rfl rfl ?_
      refine RL.ev (.move rfl) rfl rfl ?_
      refine RL.call rfl ok24 (c_alive3 w7) rfl rfl ?_
      rintro _ w9 ⟨rfl, s10⟩
      have S := S.trans s10
      refine RL.ev (.not rfl) rfl rfl ?_
      refine RL.ev (.pick_f rfl rfl) rfl rfl ?_
      refine RL.nil (RC.back ?_)
      refine RC.cond_f rfl ?_
      refine RC.skip (RC.back ?_)
      refine RC.seq ?_
      refine RC.region rfl ?_
      refine RL.ev (.move rfl) rfl rfl ?_
      refine RL.call rfl ok25 (c_r3Gen _ hr w9) rfl rfl ?_
      rintro _ w11 ⟨rfl, s12⟩
      have S := S.trans s12
      refine RL.ev (.assign rfl) rfl rfl ?_
      refine RL.nil (RC.back ?_)
      refine RC.seq ?_
      refine RC.seq ?_
      refine RC.region rfl ?_
      refine RL.ev (.move rfl) rfl rfl ?_
      refine RL.ev (.as (v' := .bool false) (.bin rfl rfl rfl) (congrArg Value.bool (decide_eq_false (by omega)))) rfl rfl ?_
      refine RL.ev (.move rfl) rfl rfl ?_
      refine RL.ev (.move rfl) rfl rfl ?_
      refine RL.ev (.as (v' := .bool false) (.bin rfl rfl rfl) (congrArg Value.bool (decide_eq_false (by omega)))) rfl rfl ?_
      refine RL.ev (.pick_f rfl rfl) rfl rfl ?_
      refine RL.nil (RC.back ?_)
      refine RC.cond_f rfl ?_
      refine RC.skip (RC.back ?_)
      refine RC.seq ?_
      refine RC.region rfl ?_
      refine RL.ev (.move rfl) rfl rfl ?_
      refine RL.call rfl ok26 ((hnode.2 ▸ c_refRight _ hr w11)) rfl rfl ?_
      rintro _ w13 ⟨rfl, s14⟩
      have S := S.trans s14
      refine RL.ev (.move rfl) rfl rfl ?_
      refine RL.ev (.move rfl) rfl rfl ?_
      refine RL.call rfl ok28 (c_refGen _ hr w13) rfl rfl ?_
      rintro _ w15 ⟨rfl, s16⟩
      have S := S.trans s16
      refine RL.ev (.move rfl) rfl rfl ?_
      refine RL.ev (.as (v' := .bool true) (.bin rfl rfl rfl) (congrArg Value.bool (decide_eq_true (e3)))) rfl rfl ?_
      refine RL.ev (.pick_t rfl rfl) rfl rfl ?_
      refine RL.ev (.move rfl) rfl rfl ?_
      refine RL.ev (.move rfl) rfl rfl ?_
      refine RL.call rfl ok27 (c_refPlace _ hr w15) rfl rfl ?_
      rintro _ w17 ⟨rfl, s18⟩
      have S := S.trans s18
      refine RL.ev (.move rfl) rfl rfl ?_
      refine RL.ev (.as (v' := .int .u64 (a2 % 65536)) (.rem rfl rfl (by decide)) (by rw [tmodE hr'.1])) rfl rfl ?_
      refine RL.ev (.as (.conv i35 i3 rfl) (wi64 (y := a2 % 65536) (by rfl) (by omega))) rfl rfl ?_
      refine RL.ev (.as (.bin rfl rfl rfl) (wi64 (y := a2 % 65536 - 1) (by rfl) (by omega))) rfl rfl ?_
      refine RL.ev (.as (v' := .bool true) (.bin rfl rfl rfl) (congrArg Value.bool (decide_eq_true (e2)))) rfl rfl ?_
      refine RL.ev (.pick_t rfl rfl) rfl rfl ?_
      refine RL.ev (.assign rfl) rfl rfl ?_
      refine RL.nil (RC.back ?_)
      refine RC.done (rs := [.tmp 6]) (vs := [_]) rfl rfl ⟨rfl, trivial⟩ ?_
      exact ⟨rfl, S⟩
    · have h' : isR a0 a1 = false := by simpa using h
      refine FC.intro Try.func8 rfl Try.ntmps8 rfl ?_
      have S := Sub.refl w
      refine RC.seq ?_
      refine RC.region rfl ?_
      refine RL.ev (.assign rfl) rfl rfl ?_
      refine RL.nil (RC.back ?_)
      refine RC.seq ?_
      refine RC.region rfl ?_
      refine RL.ev (.move rfl) rfl rfl ?_
      refine RL.ev (.move rfl) rfl rfl ?_
      refine RL.call rfl ok21 (c_refOf_no _ _ h w) rfl rfl ?_
      rintro _ w1 ⟨rfl, s2⟩
      have S := S.trans s2
      refine RL.ev (.move rfl) rfl rfl ?_
      refine RL.ev (.extract rfl rfl) rfl rfl ?_
      refine RL.ev (.extract rfl rfl) rfl rfl ?_
      refine RL.ev (.assign rfl) rfl rfl ?_
      refine RL.ev (.assign rfl) rfl rfl ?_
      refine RL.nil (RC.back ?_)
      refine RC.seq ?_
      refine RC.seq ?_
      refine RC.region rfl ?_
      refine RL.ev (.move rfl) rfl rfl ?_
      refine RL.ev (.move rfl) rfl rfl ?_
      refine RL.call rfl ok22 ((h' ▸ c_r3Is a0 a1 w1)) rfl rfl ?_
      rintro _ w3 ⟨rfl, s4⟩
      have S := S.trans s4
      refine RL.ev (.move rfl) rfl rfl ?_
      refine RL.off rfl rfl ?_
      refine RL.off rfl rfl ?_
      refine RL.off rfl rfl ?_
      refine RL.off rfl rfl ?_
      refine RL.off rfl rfl ?_
      refine RL.off rfl rfl ?_
      refine RL.off rfl rfl ?_
      refine RL.off rfl rfl ?_
      refine RL.off rfl rfl ?_
      refine RL.ev (.pick_f rfl rfl) rfl rfl ?_
      refine RL.ev (.move rfl) rfl rfl ?_
      refine RL.ev (.move rfl) rfl rfl ?_
      refine RL.ev (.move rfl) rfl rfl ?_
      refine RL.call rfl ok22 ((h' ▸ c_r3Is a0 a1 w3)) rfl rfl ?_
      rintro _ w5 ⟨rfl, s6⟩
      have S := S.trans s6
      refine RL.ev (.not rfl) rfl rfl ?_
      refine RL.ev (.move rfl) rfl rfl ?_
      refine RL.ev (.move rfl) rfl rfl ?_
      refine RL.ev (.as (v' := .bool false) (.bin rfl rfl rfl) (congrArg Value.bool (decide_eq_false (fun h => h rfl)))) rfl rfl ?_
      refine RL.ev (.move rfl) rfl rfl ?_
      refine RL.ev (.move rfl) rfl rfl ?_
      refine RL.ev (.as (v' := .bool false) (.bin rfl rfl rfl) (congrArg Value.bool (decide_eq_false (fun h => h rfl)))) rfl rfl ?_
      refine RL.ev (.pick_f rfl rfl) rfl rfl ?_
      refine RL.ev (.pick_t rfl rfl) rfl rfl ?_
      refine RL.ev (.pick_f rfl rfl) rfl rfl ?_
      refine RL.ev (.move rfl) rfl rfl ?_
      refine RL.call rfl ok24 (c_alive3 w5) rfl rfl ?_
      rintro _ w7 ⟨rfl, s8⟩
      have S := S.trans s8
      refine RL.ev (.not rfl) rfl rfl ?_
      refine RL.ev (.pick_f rfl rfl) rfl rfl ?_
      refine RL.nil (RC.back ?_)
      refine RC.cond_f rfl ?_
      refine RC.skip (RC.back ?_)
      refine RC.seq ?_
      refine RC.region rfl ?_
      refine RL.ev (.move rfl) rfl rfl ?_
      refine RL.call rfl ok25 (c_r3Gen _ hr w7) rfl rfl ?_
      rintro _ w9 ⟨rfl, s10⟩
      have S := S.trans s10
      refine RL.ev (.assign rfl) rfl rfl ?_
      refine RL.nil (RC.back ?_)
      refine RC.seq ?_
      refine RC.seq ?_
      refine RC.region rfl ?_
      refine RL.ev (.move rfl) rfl rfl ?_
      refine RL.ev (.as (v' := .bool false) (.bin rfl rfl rfl) (congrArg Value.bool (decide_eq_false (by omega)))) rfl rfl ?_
      refine RL.ev (.move rfl) rfl rfl ?_
      refine RL.ev (.move rfl) rfl rfl ?_
      refine RL.ev (.as (v' := .bool false) (.bin rfl rfl rfl) (congrArg Value.bool (decide_eq_false (by omega)))) rfl rfl ?_
      refine RL.ev (.pick_f rfl rfl) rfl rfl ?_
      refine RL.nil (RC.back ?_)
      refine RC.cond_f rfl ?_
      refine RC.skip (RC.back ?_)
      refine RC.seq ?_
      refine RC.region rfl ?_
      refine RL.ev (.move rfl) rfl rfl ?_
      refine RL.call rfl ok26 ((hnode.2 ▸ c_refRight _ hr w9)) rfl rfl ?_
      rintro _ w11 ⟨rfl, s12⟩
      have S := S.trans s12
      refine RL.ev (.move rfl) rfl rfl ?_
      refine RL.ev (.move rfl) rfl rfl ?_
      refine RL.call rfl ok28 (c_refGen _ hr w11) rfl rfl ?_
      rintro _ w13 ⟨rfl, s14⟩
      have S := S.trans s14
      refine RL.ev (.move rfl) rfl rfl ?_
      refine RL.ev (.as (v' := .bool true) (.bin rfl rfl rfl) (congrArg Value.bool (decide_eq_true (e3)))) rfl rfl ?_
      refine RL.ev (.pick_t rfl rfl) rfl rfl ?_
      refine RL.ev (.move rfl) rfl rfl ?_
      refine RL.ev (.move rfl) rfl rfl ?_
      refine RL.call rfl ok27 (c_refPlace _ hr w13) rfl rfl ?_
      rintro _ w15 ⟨rfl, s16⟩
      have S := S.trans s16
      refine RL.ev (.move rfl) rfl rfl ?_
      refine RL.ev (.as (v' := .int .u64 (a2 % 65536)) (.rem rfl rfl (by decide)) (by rw [tmodE hr'.1])) rfl rfl ?_
      refine RL.ev (.as (.conv i35 i3 rfl) (wi64 (y := a2 % 65536) (by rfl) (by omega))) rfl rfl ?_
      refine RL.ev (.as (.bin rfl rfl rfl) (wi64 (y := a2 % 65536 - 1) (by rfl) (by omega))) rfl rfl ?_
      refine RL.ev (.as (v' := .bool true) (.bin rfl rfl rfl) (congrArg Value.bool (decide_eq_true (e2)))) rfl rfl ?_
      refine RL.ev (.pick_t rfl rfl) rfl rfl ?_
      refine RL.ev (.assign rfl) rfl rfl ?_
      refine RL.nil (RC.back ?_)
      refine RC.done (rs := [.tmp 6]) (vs := [_]) rfl rfl ⟨rfl, trivial⟩ ?_
      exact ⟨rfl, S⟩

end Go.Proofs.Ytjiiiikhddehmaa
