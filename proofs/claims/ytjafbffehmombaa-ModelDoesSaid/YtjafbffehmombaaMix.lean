/-
  The package mix: each function's outcome, by 64-bit words.
-/
import Derived.Test.YtjafbffehmombaaFacts
set_option linter.unusedVariables false
set_option linter.unusedSimpArgs false
namespace Go.Proofs.Ytjafbffehmombaa
open Go Go.XL

/-! ### words of 64 bits, as the program holds them -/
def u64 (x : BitVec 64) : Value := .int .u64 (x.toNat : Int)
theorem u64_shr (x : BitVec 64) (k : Nat) (hk : k ≤ 64) : Value.int .u64 ((x.toNat : Int).fdiv (2 ^ min ((k : Int).toNat) IntKind.u64.bits)) = u64 (x >>> k) := by
  unfold u64
  congr 1
  rw [show min ((k : Int).toNat) IntKind.u64.bits = k by simp [IntKind.bits]; omega]
  have h2 : ((2 : Int) ^ k) = ((2 ^ k : Nat) : Int) := by rw [Int.natCast_pow]; rfl
  rw [BitVec.toNat_ushiftRight, Nat.shiftRight_eq_div_pow, Int.natCast_ediv, h2, Int.fdiv_eq_ediv_of_nonneg _ (Int.natCast_nonneg _)]
theorem ofInt_toNat (z : BitVec 64) : BitVec.ofInt 64 (z.toNat : Int) = z := by rw [BitVec.ofInt_natCast]; simp
theorem toNat_lt (z : BitVec 64) : z.toNat < 18446744073709551616 := z.isLt
theorem u64_xor (x y : BitVec 64) : Value.int .u64 (IntKind.u64.wrap ((BitVec.ofInt 64 (x.toNat : Int) ^^^ BitVec.ofInt 64 (y.toNat : Int)).toNat : Int)) = u64 (x ^^^ y) := by
  unfold u64
  rw [ofInt_toNat x, ofInt_toNat y, wrap_u64 ⟨Int.natCast_nonneg _, by have := toNat_lt (x ^^^ y); omega⟩]
theorem u64_of (x : Int) : Value.int .u64 (IntKind.u64.wrap x) = u64 (BitVec.ofInt 64 x) := by
  unfold u64
  congr 1
  rw [IntKind.wrap_u64, BitVec.toNat_ofInt]
  omega
theorem u64_low20 (x : BitVec 64) : Value.int .u64 (IntKind.u64.wrap ((BitVec.ofInt 64 (x.toNat : Int) &&& BitVec.ofInt 64 1048575).toNat : Int)) = .int .u64 ((x.toNat % 1048576 : Nat) : Int) := by
  have h2 : (x &&& BitVec.ofInt 64 1048575).toNat = x.toNat % 1048576 := by
    show (x &&& 1048575#64).toNat = _
    rw [BitVec.toNat_and]
    exact Nat.and_two_pow_sub_one_eq_mod x.toNat 20
  have h3 : x.toNat % 1048576 < 1048576 := Nat.mod_lt _ (by decide)
  rw [ofInt_toNat x, h2, wrap_u64 ⟨Int.natCast_nonneg _, by omega⟩]
theorem u64_mul (x : BitVec 64) (c : Nat) : Value.int .u64 (IntKind.u64.wrap ((x.toNat : Int) * (c : Int))) = u64 (x * BitVec.ofNat 64 c) := by
  rw [u64_of]
  congr 1
  rw [← Int.natCast_mul, BitVec.ofInt_natCast]
  apply BitVec.eq_of_toNat_eq
  simp [BitVec.toNat_mul]
theorem u64_add (x : BitVec 64) (c : Nat) : Value.int .u64 (IntKind.u64.wrap ((x.toNat : Int) + (c : Int))) = u64 (x + BitVec.ofNat 64 c) := by
  rw [u64_of]
  congr 1
  rw [← Int.natCast_add, BitVec.ofInt_natCast]
  apply BitVec.eq_of_toNat_eq
  simp [BitVec.toNat_add]

def mixOf (x : BitVec 64) : BitVec 64 :=
  let a := (x ^^^ (x >>> 30)) * 13787848793156543929#64
  let b := (a ^^^ (a >>> 27)) * 10723151780598845931#64
  (b ^^^ (b >>> 31)) * 1#64

set_option maxRecDepth 4000 in
theorem c_mixOf (x : BitVec 64) (w : World) : FC Try.prog 81 [u64 x] w (Val (u64 (mixOf x)) w) := by
  refine FC.intro Try.func81 rfl Try.ntmps81 rfl ?_
  have S := Sub.refl w
  refine RC.seq ?_
  refine RC.region rfl ?_
  refine RL.ev (.assign rfl) rfl rfl ?_
  refine RL.nil (RC.back ?_)
  refine RC.seq ?_
  refine RC.seq ?_
  refine RC.region rfl ?_
  refine RL.ev (.as (v' := .agg #[.int .i64 30, .int .u64 13787848793156543929]) (.buildS ze112 pl112 rfl rfl) (by rfl)) rfl rfl ?_
  refine RL.ev (.as (v' := .agg #[.int .i64 27, .int .u64 10723151780598845931]) (.buildS ze112 pl112 rfl rfl) (by rfl)) rfl rfl ?_
  refine RL.ev (.as (v' := .agg #[.int .i64 31, .int .u64 1]) (.buildS ze112 pl112 rfl rfl) (by rfl)) rfl rfl ?_
  refine RL.ev (.as (v' := .agg #[.int .i64 30, .int .u64 13787848793156543929, .int .i64 27, .int .u64 10723151780598845931, .int .i64 31, .int .u64 1]) (.buildA ze113 ar113 rfl rfl) (by rfl)) rfl rfl ?_
  refine RL.ev (.move rfl) rfl rfl ?_
  refine RL.nil (RC.back ?_)
  refine RC.block ?_
  refine RC.unroll 5 ?_
  refine RC.seq ?_
  refine RC.region rfl ?_
  refine RL.ev (.bin rfl rfl rfl) rfl rfl ?_
  refine RL.nil (RC.back ?_)
  refine RC.seq ?_
  refine RC.cond_t rfl ?_
  refine RC.skip (RC.back ?_)
  refine RC.seq ?_
  refine RC.block ?_
  refine RC.seq ?_
  refine RC.region rfl ?_
  refine RL.ev (.as (v' := .agg #[.int .i64 30, .int .u64 13787848793156543929]) (.indexN ar113 sh112 rfl rfl (by decide)) (by rfl)) rfl rfl ?_
  refine RL.alloc ze112 rfl rfl (fun b_4 w_4 e_4 z_4 hb_4 s_4 => ?_)
  have ge_4 := S.le e_4
  have S := S.trans s_4
  refine RL.store sh112 rfl rfl rfl hb_4 (by exact Nat.le_of_ble_eq_true rfl) (by rfl) rfl (fun w1 z1 hb_4 a1 => ?_)
  have S := S.upd a1 ge_4
  refine RL.nil (RC.back ?_)
  refine RC.draw rfl mxo (by kernel_rfl) ?_
  refine RQ.ev (.move rfl) rfl rfl ?_
  refine RQ.ev (.move rfl) rfl rfl ?_
  refine RQ.ev (.field0 fo112_0 rfl) rfl rfl ?_
  refine RQ.ev (.load1 sh3 rfl (hb_4.cell rfl)) rfl rfl ?_
  refine RQ.ev (.as (v' := _) (.shr rfl rfl (by decide)) (by exact u64_shr _ 30 (by decide))) rfl rfl ?_
  refine RQ.ev (.as (v' := _) (.bin rfl rfl rfl) (by exact u64_xor _ _)) rfl rfl ?_
  refine RQ.ev (.field0 fo112_1 rfl) rfl rfl ?_
  refine RQ.ev (.load1 sh85 rfl (hb_4.cell rfl)) rfl rfl ?_
  refine RQ.ev (.as (v' := _) (.bin rfl rfl rfl) (by exact u64_mul _ 13787848793156543929)) rfl rfl ?_
  refine RQ.ev (.assign rfl) rfl rfl ?_
  refine RQ.nil (fun w2 s3 => RC.back ?_)
  have S := S.trans s3
  have hb_4 := hb_4.sub s3
  refine RC.region rfl ?_
  refine RL.ev (.bin rfl rfl rfl) rfl rfl ?_
  refine RL.ev (.move rfl) rfl rfl ?_
  refine RL.nil (RC.again ?_)
  refine RC.seq ?_
  refine RC.region rfl ?_
  refine RL.ev (.bin rfl rfl rfl) rfl rfl ?_
  refine RL.nil (RC.back ?_)
  refine RC.seq ?_
  refine RC.cond_t rfl ?_
  refine RC.skip (RC.back ?_)
  refine RC.seq ?_
  refine RC.block ?_
  refine RC.seq ?_
  refine RC.region rfl ?_
  refine RL.ev (.as (v' := .agg #[.int .i64 27, .int .u64 10723151780598845931]) (.indexN ar113 sh112 rfl rfl (by decide)) (by rfl)) rfl rfl ?_
  refine RL.alloc ze112 rfl rfl (fun b_4_2 w_4_2 e_4_2 z_4_2 hb_4_2 s_4_2 => ?_)
  have ge_4_2 := S.le e_4_2
  have n_4__4_2 := hb_4.ne e_4_2
  have S := S.trans s_4_2
  have hb_4 := hb_4.sub s_4_2
  refine RL.store sh112 rfl rfl rfl hb_4_2 (by exact Nat.le_of_ble_eq_true rfl) (by rfl) rfl (fun w4 z4 hb_4_2 a4 => ?_)
  have S := S.upd a4 ge_4_2
  have hb_4 := hb_4.upd a4 n_4__4_2
  refine RL.nil (RC.back ?_)
  refine RC.draw rfl mxo (by kernel_rfl) ?_
  refine RQ.ev (.move rfl) rfl rfl ?_
  refine RQ.ev (.move rfl) rfl rfl ?_
  refine RQ.ev (.field0 fo112_0 rfl) rfl rfl ?_
  refine RQ.ev (.load1 sh3 rfl (hb_4_2.cell rfl)) rfl rfl ?_
  refine RQ.ev (.as (v' := _) (.shr rfl rfl (by decide)) (by exact u64_shr _ 27 (by decide))) rfl rfl ?_
  refine RQ.ev (.as (v' := _) (.bin rfl rfl rfl) (by exact u64_xor _ _)) rfl rfl ?_
  refine RQ.ev (.field0 fo112_1 rfl) rfl rfl ?_
  refine RQ.ev (.load1 sh85 rfl (hb_4_2.cell rfl)) rfl rfl ?_
  refine RQ.ev (.as (v' := _) (.bin rfl rfl rfl) (by exact u64_mul _ 10723151780598845931)) rfl rfl ?_
  refine RQ.ev (.assign rfl) rfl rfl ?_
  refine RQ.nil (fun w5 s6 => RC.back ?_)
  have S := S.trans s6
  have hb_4 := hb_4.sub s6
  have hb_4_2 := hb_4_2.sub s6
  refine RC.region rfl ?_
  refine RL.ev (.bin rfl rfl rfl) rfl rfl ?_
  refine RL.ev (.move rfl) rfl rfl ?_
  refine RL.nil (RC.again ?_)
  refine RC.seq ?_
  refine RC.region rfl ?_
  refine RL.ev (.bin rfl rfl rfl) rfl rfl ?_
  refine RL.nil (RC.back ?_)
  refine RC.seq ?_
  refine RC.cond_t rfl ?_
  refine RC.skip (RC.back ?_)
  refine RC.seq ?_
  refine RC.block ?_
  refine RC.seq ?_
  refine RC.region rfl ?_
  refine RL.ev (.as (v' := .agg #[.int .i64 31, .int .u64 1]) (.indexN ar113 sh112 rfl rfl (by decide)) (by rfl)) rfl rfl ?_
  refine RL.alloc ze112 rfl rfl (fun b_4_3 w_4_3 e_4_3 z_4_3 hb_4_3 s_4_3 => ?_)
  have ge_4_3 := S.le e_4_3
  have n_4__4_3 := hb_4.ne e_4_3
  have n_4_2__4_3 := hb_4_2.ne e_4_3
  have S := S.trans s_4_3
  have hb_4 := hb_4.sub s_4_3
  have hb_4_2 := hb_4_2.sub s_4_3
  refine RL.store sh112 rfl rfl rfl hb_4_3 (by exact Nat.le_of_ble_eq_true rfl) (by rfl) rfl (fun w7 z7 hb_4_3 a7 => ?_)
  have S := S.upd a7 ge_4_3
  have hb_4 := hb_4.upd a7 n_4__4_3
  have hb_4_2 := hb_4_2.upd a7 n_4_2__4_3
  refine RL.nil (RC.back ?_)
  refine RC.draw rfl mxo (by kernel_rfl) ?_
  refine RQ.ev (.move rfl) rfl rfl ?_
  refine RQ.ev (.move rfl) rfl rfl ?_
  refine RQ.ev (.field0 fo112_0 rfl) rfl rfl ?_
  refine RQ.ev (.load1 sh3 rfl (hb_4_3.cell rfl)) rfl rfl ?_
  refine RQ.ev (.as (v' := _) (.shr rfl rfl (by decide)) (by exact u64_shr _ 31 (by decide))) rfl rfl ?_
  refine RQ.ev (.as (v' := _) (.bin rfl rfl rfl) (by exact u64_xor _ _)) rfl rfl ?_
  refine RQ.ev (.field0 fo112_1 rfl) rfl rfl ?_
  refine RQ.ev (.load1 sh85 rfl (hb_4_3.cell rfl)) rfl rfl ?_
  refine RQ.ev (.as (v' := _) (.bin rfl rfl rfl) (by exact u64_mul _ 1)) rfl rfl ?_
  refine RQ.ev (.assign rfl) rfl rfl ?_
  refine RQ.nil (fun w8 s9 => RC.back ?_)
  have S := S.trans s9
  have hb_4 := hb_4.sub s9
  have hb_4_2 := hb_4_2.sub s9
  have hb_4_3 := hb_4_3.sub s9
  refine RC.region rfl ?_
  refine RL.ev (.bin rfl rfl rfl) rfl rfl ?_
  refine RL.ev (.move rfl) rfl rfl ?_
  refine RL.nil (RC.again ?_)
  refine RC.seq ?_
  refine RC.region rfl ?_
  refine RL.ev (.bin rfl rfl rfl) rfl rfl ?_
  refine RL.nil (RC.back ?_)
  refine RC.seq ?_
  refine RC.cond_f rfl ?_
  refine RC.exit rfl (RC.back ?_)
  refine RC.seq ?_
  refine RC.region rfl ?_
  refine RL.ev (.move rfl) rfl rfl ?_
  refine RL.ev (.assign rfl) rfl rfl ?_
  refine RL.nil (RC.back ?_)
  refine RC.done (rs := [.tmp 2]) (vs := [_]) rfl rfl ⟨rfl, trivial⟩ ?_
  -- end 1
  exact ⟨rfl, S⟩

def rankOf (k : Int) : BitVec 64 := mixOf (BitVec.ofInt 64 k + 7#64)
def hashOf (k : Int) : Nat := (rankOf k).toNat % 1048576
theorem hashOf_lt (k : Int) : hashOf k < 1048576 := Nat.mod_lt _ (by decide)
def beforeK (a b : Int) : Bool := decide ((rankOf a).toNat < (rankOf b).toNat ∨ (rankOf a).toNat = (rankOf b).toNat ∧ a < b)

theorem c_rank (k : Int) (w : World) : FC Try.prog 69 [.int .i64 k] w (Val (u64 (rankOf k)) w) := by
  refine FC.intro Try.func69 rfl Try.ntmps69 rfl ?_
  have S := Sub.refl w
  refine RC.seq ?_
  refine RC.region rfl ?_
  refine RL.ev (.assign rfl) rfl rfl ?_
  refine RL.nil (RC.back ?_)
  refine RC.seq ?_
  refine RC.region rfl ?_
  refine RL.ev (.move rfl) rfl rfl ?_
  refine RL.ev (.as (v' := _) (.conv i2 i85 rfl) (by exact u64_of _)) rfl rfl ?_
  refine RL.ev (.as (v' := _) (.bin rfl rfl rfl) (by exact u64_add _ 7)) rfl rfl ?_
  refine RL.call rfl ok81 (c_mixOf _ w) rfl rfl ?_
  rintro _ w1 ⟨rfl, s2⟩
  have S := S.trans s2
  refine RL.ev (.assign rfl) rfl rfl ?_
  refine RL.nil (RC.back ?_)
  refine RC.done (rs := [.tmp 2]) (vs := [_]) rfl rfl ⟨rfl, trivial⟩ ?_
  -- end 1
  exact ⟨rfl, S⟩
theorem c_hash (k : Int) (w : World) : FC Try.prog 57 [.int .i64 k] w (Val (.int .i64 (hashOf k)) w) := by
  refine FC.intro Try.func57 rfl Try.ntmps57 rfl ?_
  have S := Sub.refl w
  have hlt := hashOf_lt k
  refine RC.seq ?_
  refine RC.region rfl ?_
  refine RL.ev (.assign rfl) rfl rfl ?_
  refine RL.nil (RC.back ?_)
  refine RC.seq ?_
  refine RC.region rfl ?_
  refine RL.ev (.move rfl) rfl rfl ?_
  refine RL.call rfl ok69 (c_rank _ w) rfl rfl ?_
  rintro _ w1 ⟨rfl, s2⟩
  have S := S.trans s2
  refine RL.ev (.as (v' := .int .u64 (hashOf k : Int)) (.bin rfl rfl rfl) (by exact u64_low20 _)) rfl rfl ?_
  refine RL.ev (.as (.conv i85 i3 rfl) (wi64 (y := (hashOf k : Int)) (by rfl) (by omega))) rfl rfl ?_
  refine RL.ev (.assign rfl) rfl rfl ?_
  refine RL.nil (RC.back ?_)
  refine RC.done (rs := [.tmp 2]) (vs := [_]) rfl rfl ⟨rfl, trivial⟩ ?_
  -- end 1
  exact ⟨rfl, S⟩
def pickOf (l r : Int) : Bool := decide ((mixOf (BitVec.ofInt 64 (l * 1048576 + r))).toNat % (l + r).toNat < l.toNat)
def pickMay (l r : Int) : Prop := 1 ≤ l ∧ l ≤ 1073741824 ∧ 1 ≤ r ∧ r ≤ 1073741824
theorem pick_iff (n : Nat) (l m : Int) (hl : 1 ≤ l) (hm : 1 ≤ m) : (n : Int).tmod m < l ↔ n % m.toNat < l.toNat := by
  rw [Int.tmod_eq_emod_of_nonneg (Int.natCast_nonneg _)]
  obtain ⟨k, rfl⟩ := Int.eq_ofNat_of_zero_le (show 0 ≤ m by omega)
  rw [Int.toNat_natCast, ← Int.natCast_emod]
  omega
end Go.Proofs.Ytjafbffehmombaa
