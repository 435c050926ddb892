/-
  The reference of the layer mix, function by function; and what the statements say of both, by 64-bit words.
-/
import Derived.Test.YtjafbffehmombaaMix
set_option linter.unusedVariables false
set_option linter.unusedSimpArgs false
namespace Go.Proofs.Ytjafbffehmombaa
open Go Go.XL

theorem u64_half (x : BitVec 64) (i : Nat) : Value.int .u64 (IntKind.u64.wrap (((x >>> i).toNat : Int).tdiv 2)) = u64 (x >>> (i + 1)) := by
  unfold u64
  have h : ((x >>> i).toNat : Int).tdiv 2 = ((x >>> (i + 1)).toNat : Int) := by
    rw [Int.tdiv_eq_ediv_of_nonneg (Int.natCast_nonneg _), BitVec.toNat_ushiftRight, BitVec.toNat_ushiftRight, Nat.shiftRight_succ]
    omega
  rw [h, wrap_u64 ⟨Int.natCast_nonneg _, by have := toNat_lt (x >>> (i + 1)); omega⟩]

theorem c_move (x : BitVec 64) (k : Nat) (hk : k ≤ 64) (w : World) : FC Try.prog 80 [u64 x, .int .i64 k] w (Val (u64 (x >>> k)) w) := by
  refine FC.intro Try.func80 rfl Try.ntmps80 rfl ?_
  have S := Sub.refl w
  refine RC.seq ?_
  refine RC.region rfl ?_
  refine RL.ev (.assign rfl) rfl rfl ?_
  refine RL.nil (RC.back ?_)
  refine RC.seq ?_
  refine RC.seq ?_
  refine RC.region rfl ?_
  refine RL.ev (.assign rfl) rfl rfl ?_
  refine RL.nil (RC.back ?_)
  refine RC.block ?_
  refine RC.loop (α := Nat) (fun i => [(0, u64 (x >>> i)), (1, .int .i64 (k : Int)), (5, .int .i64 (i : Int))]) (fun i w1 => i ≤ k ∧ Sub w w1) (fun i => k - i) 0 (keep_of (by repeat (first | exact trivial | refine And.intro rfl ?_))) (⟨Nat.zero_le _, S⟩) (fun i w1 hJ => ?_)
  obtain ⟨hi, S⟩ := hJ
  refine RC.seq ?_
  refine RC.seq ?_
  refine RC.region rfl ?_
  refine RL.ev (.move rfl) rfl rfl ?_
  refine RL.ev (.move rfl) rfl rfl ?_
  refine RL.ev (.bin rfl rfl rfl) rfl rfl ?_
  refine RL.nil (RC.back ?_)
  refine RC.cond_dec rfl (fun h2 => ?_) (fun h2 => ?_)
  ·
    refine RC.skip (RC.back ?_)
    refine RC.seq ?_
    refine RC.block ?_
    refine RC.region rfl ?_
    refine RL.ev (.move rfl) rfl rfl ?_
    refine RL.ev (.as (v' := u64 (x >>> (i + 1))) (.quo rfl rfl (by decide)) (by exact u64_half _ _)) rfl rfl ?_
    refine RL.ev (.assign rfl) rfl rfl ?_
    refine RL.nil (RC.back ?_)
    refine RC.region rfl ?_
    refine RL.ev (.move rfl) rfl rfl ?_
    refine RL.ev (.as (.bin rfl rfl rfl) (wi64 (y := ((i + 1 : Nat) : Int)) (by omega) (by omega))) rfl rfl ?_
    refine RL.ev (.assign rfl) rfl rfl ?_
    exact RL.nil (fun a ka => ⟨i + 1, ⟨by omega, S⟩, by omega, ka.keep (keep_of (by repeat (first | exact trivial | refine And.intro rfl ?_)))⟩)
  ·
    obtain rfl : i = k := by omega
    refine RC.exit rfl (RC.back ?_)
    refine RC.seq ?_
    refine RC.region rfl ?_
    refine RL.ev (.move rfl) rfl rfl ?_
    refine RL.ev (.assign rfl) rfl rfl ?_
    refine RL.nil (RC.back ?_)
    refine RC.done (rs := [.tmp 4]) (vs := [_]) rfl rfl ⟨rfl, trivial⟩ ?_
    -- end 1
    exact ⟨rfl, S⟩

/-- the rounds of unmove -/
def unmIt (x : BitVec 64) (k : Nat) : Nat → BitVec 64
  | 0 => x
  | i + 1 => x ^^^ (unmIt x k i >>> k)
def invIt (c : BitVec 64) : Nat → BitVec 64
  | 0 => c
  | i + 1 => invIt c i * (2#64 - c * invIt c i)
theorem u64_mul2 (x y : BitVec 64) : Value.int .u64 (IntKind.u64.wrap ((x.toNat : Int) * (y.toNat : Int))) = u64 (x * y) := by
  have := u64_mul x y.toNat
  rwa [BitVec.ofNat_toNat, BitVec.setWidth_eq] at this
theorem u64_two_sub (x : BitVec 64) : Value.int .u64 (IntKind.u64.wrap (2 - (x.toNat : Int))) = u64 (2#64 - x) := by
  unfold u64
  congr 1
  rw [IntKind.wrap_u64, BitVec.toNat_sub]
  have := toNat_lt x
  simp only [BitVec.toNat_ofNat]
  omega
def backOf (n : BitVec 64) : BitVec 64 :=
  let a := unmIt n 31 4 * invIt 10723151780598845931#64 6
  let b := unmIt a 27 4 * invIt 13787848793156543929#64 6
  unmIt b 30 4
theorem mixOf_eq (x : BitVec 64) : mixOf x = (let a := (x ^^^ (x >>> 30)) * 13787848793156543929#64; let b := (a ^^^ (a >>> 27)) * 10723151780598845931#64; b ^^^ (b >>> 31)) := by
  simp only [mixOf, BitVec.mul_one]
theorem c_refOf (x : BitVec 64) (w : World) : FC Try.prog 68 [u64 x] w (Val (u64 (mixOf x)) w) := by
  rw [mixOf_eq]
  refine FC.intro Try.func68 rfl Try.ntmps68 rfl ?_
  have S := Sub.refl w
  refine RC.seq ?_
  refine RC.region rfl ?_
  refine RL.ev (.assign rfl) rfl rfl ?_
  refine RL.nil (RC.back ?_)
  refine RC.seq ?_
  refine RC.region rfl ?_
  refine RL.ev (.move rfl) rfl rfl ?_
  refine RL.ev (.move rfl) rfl rfl ?_
  refine RL.call rfl ok80 (c_move _ 30 (by decide) w) rfl rfl ?_
  rintro _ w1 ⟨rfl, s2⟩
  have S := S.trans s2
  refine RL.ev (.as (v' := _) (.bin rfl rfl rfl) (by exact u64_xor _ _)) rfl rfl ?_
  refine RL.ev (.assign rfl) rfl rfl ?_
  refine RL.nil (RC.back ?_)
  refine RC.seq ?_
  refine RC.region rfl ?_
  refine RL.ev (.move rfl) rfl rfl ?_
  refine RL.ev (.as (v' := _) (.bin rfl rfl rfl) (by exact u64_mul _ 13787848793156543929)) rfl rfl ?_
  refine RL.ev (.assign rfl) rfl rfl ?_
  refine RL.nil (RC.back ?_)
  refine RC.seq ?_
  refine RC.region rfl ?_
  refine RL.ev (.move rfl) rfl rfl ?_
  refine RL.ev (.move rfl) rfl rfl ?_
  refine RL.call rfl ok80 (c_move _ 27 (by decide) w1) rfl rfl ?_
  rintro _ w3 ⟨rfl, s4⟩
  have S := S.trans s4
  refine RL.ev (.as (v' := _) (.bin rfl rfl rfl) (by exact u64_xor _ _)) rfl rfl ?_
  refine RL.ev (.assign rfl) rfl rfl ?_
  refine RL.nil (RC.back ?_)
  refine RC.seq ?_
  refine RC.region rfl ?_
  refine RL.ev (.move rfl) rfl rfl ?_
  refine RL.ev (.as (v' := _) (.bin rfl rfl rfl) (by exact u64_mul _ 10723151780598845931)) rfl rfl ?_
  refine RL.ev (.assign rfl) rfl rfl ?_
  refine RL.nil (RC.back ?_)
  refine RC.seq ?_
  refine RC.region rfl ?_
  refine RL.ev (.move rfl) rfl rfl ?_
  refine RL.ev (.move rfl) rfl rfl ?_
  refine RL.call rfl ok80 (c_move _ 31 (by decide) w3) rfl rfl ?_
  rintro _ w5 ⟨rfl, s6⟩
  have S := S.trans s6
  refine RL.ev (.as (v' := _) (.bin rfl rfl rfl) (by exact u64_xor _ _)) rfl rfl ?_
  refine RL.ev (.assign rfl) rfl rfl ?_
  refine RL.nil (RC.back ?_)
  refine RC.done (rs := [.tmp 2]) (vs := [_]) rfl rfl ⟨rfl, trivial⟩ ?_
  -- end 1
  exact ⟨rfl, S⟩
theorem c_refRank (k : Int) (w : World) : FC Try.prog 51 [.int .i64 k] w (Val (u64 (rankOf k)) w) := by
  refine FC.intro Try.func51 rfl Try.ntmps51 rfl ?_
  have S := Sub.refl w
  refine RC.seq ?_
  refine RC.region rfl ?_
  refine RL.ev (.assign rfl) rfl rfl ?_
  refine RL.nil (RC.back ?_)
  refine RC.seq ?_
  refine RC.region rfl ?_
  refine RL.ev (.move rfl) rfl rfl ?_
  refine RL.ev (.as (v' := _) (.conv i2 i85 rfl) (by exact u64_of _)) rfl rfl ?_
  refine RL.ev (.as (v' := _) (.bin rfl rfl rfl) (by exact u64_add _ 7)) rfl rfl ?_
  refine RL.call rfl ok68 (c_refOf _ w) rfl rfl ?_
  rintro _ w1 ⟨rfl, s2⟩
  have S := S.trans s2
  refine RL.ev (.assign rfl) rfl rfl ?_
  refine RL.nil (RC.back ?_)
  refine RC.done (rs := [.tmp 2]) (vs := [_]) rfl rfl ⟨rfl, trivial⟩ ?_
  -- end 1
  exact ⟨rfl, S⟩
/-! ### the plain laws -/
theorem unm_step (x : BitVec 64) (k : Nat) : ∀ i, unmIt (x ^^^ (x >>> k)) k i ^^^ x = x >>> ((i + 1) * k)
  | 0 => by
    show (x ^^^ (x >>> k)) ^^^ x = _
    rw [BitVec.xor_comm x, BitVec.xor_assoc, BitVec.xor_self, BitVec.xor_zero]
    congr 1
    omega
  | i + 1 => by
    have ih := unm_step x k i
    show ((x ^^^ (x >>> k)) ^^^ (unmIt (x ^^^ (x >>> k)) k i >>> k)) ^^^ x = _
    have e : ((x ^^^ (x >>> k)) ^^^ (unmIt (x ^^^ (x >>> k)) k i >>> k)) ^^^ x = (unmIt (x ^^^ (x >>> k)) k i ^^^ x) >>> k := by
      rw [BitVec.ushiftRight_xor_distrib]
      generalize unmIt (x ^^^ (x >>> k)) k i >>> k = z
      generalize x >>> k = y
      rw [BitVec.xor_comm x y, BitVec.xor_assoc (y ^^^ x) z x, BitVec.xor_comm z x, BitVec.xor_assoc y x, ← BitVec.xor_assoc x x z, BitVec.xor_self, BitVec.zero_xor, BitVec.xor_comm]
    rw [e, ih, ← BitVec.shiftRight_add]
    congr 1
    rw [Nat.succ_mul (i + 1)]
theorem shr_big (x : BitVec 64) (k : Nat) (hk : 64 ≤ k) : x >>> k = 0#64 := by
  apply BitVec.eq_of_toNat_eq
  rw [BitVec.toNat_ushiftRight, Nat.shiftRight_eq_div_pow]
  have h1 : x.toNat < 2 ^ 64 := x.isLt
  have h2 : 2 ^ 64 ≤ 2 ^ k := Nat.pow_le_pow_right (by decide) hk
  rw [Nat.div_eq_of_lt (by omega)]
  rfl
theorem unm_fwd (x : BitVec 64) (k : Nat) (hk : 13 ≤ k) : unmIt (x ^^^ (x >>> k)) k 4 = x := by
  have h := unm_step x k 4
  rw [show x >>> ((4 + 1) * k) = 0#64 from shr_big x _ (by omega)] at h
  have h2 : (unmIt (x ^^^ (x >>> k)) k 4 ^^^ x) ^^^ x = 0#64 ^^^ x := by rw [h]
  rw [BitVec.xor_assoc, BitVec.xor_self, BitVec.xor_zero, BitVec.zero_xor] at h2
  exact h2
theorem unm_diff (y : BitVec 64) (k : Nat) : ∀ i, unmIt y k (i + 1) ^^^ unmIt y k i = y >>> ((i + 1) * k)
  | 0 => by
    show (y ^^^ (y >>> k)) ^^^ y = _
    rw [BitVec.xor_comm y, BitVec.xor_assoc, BitVec.xor_self, BitVec.xor_zero]
    congr 1
    omega
  | i + 1 => by
    have ih := unm_diff y k i
    show (y ^^^ (unmIt y k (i + 1) >>> k)) ^^^ (y ^^^ (unmIt y k i >>> k)) = _
    have e : (y ^^^ (unmIt y k (i + 1) >>> k)) ^^^ (y ^^^ (unmIt y k i >>> k)) = (unmIt y k (i + 1) ^^^ unmIt y k i) >>> k := by
      rw [BitVec.ushiftRight_xor_distrib]
      generalize unmIt y k (i + 1) >>> k = a
      generalize unmIt y k i >>> k = b
      rw [BitVec.xor_comm y a, BitVec.xor_assoc, ← BitVec.xor_assoc y y b, BitVec.xor_self, BitVec.zero_xor]
    rw [e, ih, ← BitVec.shiftRight_add]
    congr 1
    rw [Nat.succ_mul (i + 1)]
theorem unm_bwd (y : BitVec 64) (k : Nat) (hk : 13 ≤ k) : unmIt y k 4 ^^^ (unmIt y k 4 >>> k) = y := by
  have h := unm_diff y k 4
  rw [show y >>> ((4 + 1) * k) = 0#64 from shr_big y _ (by omega)] at h
  have h2 : unmIt y k 5 = unmIt y k 4 := by
    have h3 : (unmIt y k 5 ^^^ unmIt y k 4) ^^^ unmIt y k 4 = 0#64 ^^^ unmIt y k 4 := by rw [h]
    rw [BitVec.xor_assoc, BitVec.xor_self, BitVec.xor_zero, BitVec.zero_xor] at h3
    exact h3
  have h4 : y ^^^ (unmIt y k 4 >>> k) = unmIt y k 4 := h2
  calc unmIt y k 4 ^^^ (unmIt y k 4 >>> k) = (y ^^^ (unmIt y k 4 >>> k)) ^^^ (unmIt y k 4 >>> k) := by rw [h4]
    _ = y := by rw [BitVec.xor_assoc, BitVec.xor_self, BitVec.xor_zero]
theorem inv1 : 13787848793156543929#64 * invIt 13787848793156543929#64 6 = 1#64 := by decide +kernel
theorem inv2 : 10723151780598845931#64 * invIt 10723151780598845931#64 6 = 1#64 := by decide +kernel

theorem back_mix (x : BitVec 64) : backOf (mixOf x) = x := by
  rw [mixOf_eq]
  simp only [backOf]
  rw [unm_fwd _ 31 (by decide), BitVec.mul_assoc, inv2, BitVec.mul_one, unm_fwd _ 27 (by decide), BitVec.mul_assoc, inv1, BitVec.mul_one, unm_fwd _ 30 (by decide)]
theorem mix_back (x : BitVec 64) : mixOf (backOf x) = x := by
  rw [mixOf_eq]
  simp only [backOf]
  rw [unm_bwd _ 30 (by decide), BitVec.mul_assoc, BitVec.mul_comm (invIt _ _), inv1, BitVec.mul_one, unm_bwd _ 27 (by decide), BitVec.mul_assoc, BitVec.mul_comm (invIt _ _), inv2, BitVec.mul_one, unm_bwd _ 31 (by decide)]
theorem mixOf_inj {x y : BitVec 64} (h : mixOf x = mixOf y) : x = y := by rw [← back_mix x, ← back_mix y, h]

end Go.Proofs.Ytjafbffehmombaa
