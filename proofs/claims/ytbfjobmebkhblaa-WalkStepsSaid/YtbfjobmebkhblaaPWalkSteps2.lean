/-
  What the law WalkSteps leans on, part 2.
-/
import Derived.Test.YtbfjobmebkhblaaPWalkSteps1
set_option linter.unusedVariables false
set_option linter.unusedSimpArgs false
namespace Go.Proofs.Ytbfjobmebkhblaa
open Go Go.XL
def u64 (x : BitVec 64) : Value := .int .u64 (x.toNat : Int)
theorem u64_shr (x : BitVec 64) (k : Nat) (hk : k ≤ 64) : Value.int .u64 ((x.toNat : Int).fdiv (2 ^ min ((k : Int).toNat) IntKind.u64.bits)) = u64 (x >>> k) := by
  unfold u64
  congr 1
  rw [show min ((k : Int).toNat) IntKind.u64.bits = k by simp [IntKind.bits]; omega]
  have h2 : ((2 : Int) ^ k) = ((2 ^ k : Nat) : Int) := by rw [Int.natCast_pow]; rfl
  rw [BitVec.toNat_ushiftRight, Nat.shiftRight_eq_div_pow, Int.natCast_ediv, h2, Int.fdiv_eq_ediv_of_nonneg _ (Int.natCast_nonneg _)]
theorem ofInt_toNat (z : BitVec 64) : BitVec.ofInt 64 (z.toNat : Int) = z := by rw [BitVec.ofInt_natCast]; simp
theorem toNat_lt (z : BitVec 64) : z.toNat < 18446744073709551616 := z.isLt
theorem u64_xor (x y : BitVec 64) : Value.int .u64 (IntKind.u64.wrap ((BitVec.ofInt 64 (x.toNat : Int) ^^^ BitVec.ofInt 64 (y.toNat : Int)).toNat : Int)) = u64 (x ^^^ y) := by
  unfold u64
  rw [ofInt_toNat x, ofInt_toNat y, wrap_u64 ⟨Int.natCast_nonneg _, by have := toNat_lt (x ^^^ y); omega⟩]
theorem u64_of (x : Int) : Value.int .u64 (IntKind.u64.wrap x) = u64 (BitVec.ofInt 64 x) := by
  unfold u64
  congr 1
  rw [IntKind.wrap_u64, BitVec.toNat_ofInt]
  omega
theorem u64_low20 (x : BitVec 64) : Value.int .u64 (IntKind.u64.wrap ((BitVec.ofInt 64 (x.toNat : Int) &&& BitVec.ofInt 64 1048575).toNat : Int)) = .int .u64 ((x.toNat % 1048576 : Nat) : Int) := by
  have h2 : (x &&& BitVec.ofInt 64 1048575).toNat = x.toNat % 1048576 := by
    show (x &&& 1048575#64).toNat = _
    rw [BitVec.toNat_and]
    exact Nat.and_two_pow_sub_one_eq_mod x.toNat 20
  have h3 : x.toNat % 1048576 < 1048576 := Nat.mod_lt _ (by decide)
  rw [ofInt_toNat x, h2, wrap_u64 ⟨Int.natCast_nonneg _, by omega⟩]
theorem u64_mul (x : BitVec 64) (c : Nat) : Value.int .u64 (IntKind.u64.wrap ((x.toNat : Int) * (c : Int))) = u64 (x * BitVec.ofNat 64 c) := by
  rw [u64_of]
  congr 1
  rw [← Int.natCast_mul, BitVec.ofInt_natCast]
  apply BitVec.eq_of_toNat_eq
  simp [BitVec.toNat_mul]
theorem u64_add (x : BitVec 64) (c : Nat) : Value.int .u64 (IntKind.u64.wrap ((x.toNat : Int) + (c : Int))) = u64 (x + BitVec.ofNat 64 c) := by
  rw [u64_of]
  congr 1
  rw [← Int.natCast_add, BitVec.ofInt_natCast]
  apply BitVec.eq_of_toNat_eq
  simp [BitVec.toNat_add]

def mixOf (x : BitVec 64) : BitVec 64 :=
  let a := (x ^^^ (x >>> 30)) * 13787848793156543929#64
  let b := (a ^^^ (a >>> 27)) * 10723151780598845931#64
  (b ^^^ (b >>> 31)) * 1#64

set_option maxRecDepth 4000 in
theorem c_mixOf (x : BitVec 64) (w : World) : FC Try.prog 97 [u64 x] w (Val (u64 (mixOf x)) w) := by
  refine FC.intro Try.func97 rfl Try.ntmps97 rfl ?_
  have S := Sub.refl w
  refine RC.seq ?_
  refine RC.region rfl ?_
  refine RL.ev (.assign rfl) rfl rfl ?_
  refine RL.nil (RC.back ?_)
  refine RC.seq ?_
  refine RC.seq ?_
  refine RC.region rfl ?_
  refine RL.ev (.as (v' := .agg #[.int .i64 30, .int .u64 13787848793156543929]) (.buildS ze147 pl147 rfl rfl) (by rfl)) rfl rfl ?_
  refine RL.ev (.as (v' := .agg #[.int .i64 27, .int .u64 10723151780598845931]) (.buildS ze147 pl147 rfl rfl) (by rfl)) rfl rfl ?_
  refine RL.ev (.as (v' := .agg #[.int .i64 31, .int .u64 1]) (.buildS ze147 pl147 rfl rfl) (by rfl)) rfl rfl ?_
  refine RL.ev (.as (v' := .agg #[.int .i64 30, .int .u64 13787848793156543929, .int .i64 27, .int .u64 10723151780598845931, .int .i64 31, .int .u64 1]) (.buildA ze148 ar148 rfl rfl) (by rfl)) rfl rfl ?_
  refine RL.ev (.move rfl) rfl rfl ?_
  refine RL.nil (RC.back ?_)
  refine RC.block ?_
  refine RC.unroll 5 ?_
  refine RC.seq ?_
  refine RC.region rfl ?_
  refine RL.ev (.bin rfl rfl rfl) rfl rfl ?_
  refine RL.nil (RC.back ?_)
  refine RC.seq ?_
  refine RC.cond_t rfl ?_
  refine RC.skip (RC.back ?_)
  refine RC.seq ?_
  refine RC.block ?_
  refine RC.seq ?_
  refine RC.region rfl ?_
  refine RL.ev (.as (v' := .agg #[.int .i64 30, .int .u64 13787848793156543929]) (.indexN ar148 sh147 rfl rfl (by decide)) (by rfl)) rfl rfl ?_
  refine RL.alloc ze147 rfl rfl (fun b_4 w_4 e_4 z_4 hb_4 s_4 => ?_)
  have ge_4 := S.le e_4
  have S := S.trans s_4
  refine RL.store sh147 rfl rfl rfl hb_4 (by exact Nat.le_of_ble_eq_true rfl) (by rfl) rfl (fun w1 z1 hb_4 a1 => ?_)
  have S := S.upd a1 ge_4
  refine RL.nil (RC.back ?_)
  refine RC.draw rfl mxo (by kernel_rfl) ?_
  refine RQ.ev (.move rfl) rfl rfl ?_
  refine RQ.ev (.move rfl) rfl rfl ?_
  refine RQ.ev (.field0 fo147_0 rfl) rfl rfl ?_
  refine RQ.ev (.load1 sh3 rfl (hb_4.cell rfl)) rfl rfl ?_
  refine RQ.ev (.as (v' := _) (.shr rfl rfl (by decide)) (by exact u64_shr _ 30 (by decide))) rfl rfl ?_
  refine RQ.ev (.as (v' := _) (.bin rfl rfl rfl) (by exact u64_xor _ _)) rfl rfl ?_
  refine RQ.ev (.field0 fo147_1 rfl) rfl rfl ?_
  refine RQ.ev (.load1 sh35 rfl (hb_4.cell rfl)) rfl rfl ?_
  refine RQ.ev (.as (v' := _) (.bin rfl rfl rfl) (by exact u64_mul _ 13787848793156543929)) rfl rfl ?_
  refine RQ.ev (.assign rfl) rfl rfl ?_
  refine RQ.nil (fun w2 s3 => RC.back ?_)
  have S := S.trans s3
  have hb_4 := hb_4.sub s3
  refine RC.region rfl ?_
  refine RL.ev (.bin rfl rfl rfl) rfl rfl ?_
  refine RL.ev (.move rfl) rfl rfl ?_
  refine RL.nil (RC.again ?_)
  refine RC.seq ?_
  refine RC.region rfl ?_
  refine RL.ev (.bin rfl rfl rfl) rfl rfl ?_
  refine RL.nil (RC.back ?_)
  refine RC.seq ?_
  refine RC.cond_t rfl ?_
  refine RC.skip (RC.back ?_)
  refine RC.seq ?_
  refine RC.block ?_
  refine RC.seq ?_
  refine RC.region rfl ?_
  refine RL.ev (.as (v' := .agg #[.int .i64 27, .int .u64 10723151780598845931]) (.indexN ar148 sh147 rfl rfl (by decide)) (by rfl)) rfl rfl ?_
  refine RL.alloc ze147 rfl rfl (fun b_4_2 w_4_2 e_4_2 z_4_2 hb_4_2 s_4_2 => ?_)
  have ge_4_2 := S.le e_4_2
  have n_4__4_2 := hb_4.ne e_4_2
  have S := S.trans s_4_2
  have hb_4 := hb_4.sub s_4_2
  refine RL.store sh147 rfl rfl rfl hb_4_2 (by exact Nat.le_of_ble_eq_true rfl) (by rfl) rfl (fun w4 z4 hb_4_2 a4 => ?_)
  have S := S.upd a4 ge_4_2
  have hb_4 := hb_4.upd a4 n_4__4_2
  refine RL.nil (RC.back ?_)
  refine RC.draw rfl mxo (by kernel_rfl) ?_
  refine RQ.ev (.move rfl) rfl rfl ?_
  refine RQ.ev (.move rfl) rfl rfl ?_
  refine RQ.ev (.field0 fo147_0 rfl) rfl rfl ?_
  refine RQ.ev (.load1 sh3 rfl (hb_4_2.cell rfl)) rfl rfl ?_
  refine RQ.ev (.as (v' := _) (.shr rfl rfl (by decide)) (by exact u64_shr _ 27 (by decide))) rfl rfl ?_
  refine RQ.ev (.as (v' := _) (.bin rfl rfl rfl) (by exact u64_xor _ _)) rfl rfl ?_
  refine RQ.ev (.field0 fo147_1 rfl) rfl rfl ?_
  refine RQ.ev (.load1 sh35 rfl (hb_4_2.cell rfl)) rfl rfl ?_
  refine RQ.ev (.as (v' := _) (.bin rfl rfl rfl) (by exact u64_mul _ 10723151780598845931)) rfl rfl ?_
  refine RQ.ev (.assign rfl) rfl rfl ?_
  refine RQ.nil (fun w5 s6 => RC.back ?_)
  have S := S.trans s6
  have hb_4 := hb_4.sub s6
  have hb_4_2 := hb_4_2.sub s6
  refine RC.region rfl ?_
  refine RL.ev (.bin rfl rfl rfl) rfl rfl ?_
  refine RL.ev (.move rfl) rfl rfl ?_
  refine RL.nil (RC.again ?_)
  refine RC.seq ?_
  refine RC.region rfl ?_
  refine RL.ev (.bin rfl rfl rfl) rfl rfl ?_
  refine RL.nil (RC.back ?_)
  refine RC.seq ?_
  refine RC.cond_t rfl ?_
  refine RC.skip (RC.back ?_)
  refine RC.seq ?_
  refine RC.block ?_
  refine RC.seq ?_
  refine RC.region rfl ?_
  refine RL.ev (.as (v' := .agg #[.int .i64 31, .int .u64 1]) (.indexN ar148 sh147 rfl rfl (by decide)) (by rfl)) rfl rfl ?_
  refine RL.alloc ze147 rfl rfl (fun b_4_3 w_4_3 e_4_3 z_4_3 hb_4_3 s_4_3 => ?_)
  have ge_4_3 := S.le e_4_3
  have n_4__4_3 := hb_4.ne e_4_3
  have n_4_2__4_3 := hb_4_2.ne e_4_3
  have S := S.trans s_4_3
  have hb_4 := hb_4.sub s_4_3
  have hb_4_2 := hb_4_2.sub s_4_3
  refine RL.store sh147 rfl rfl rfl hb_4_3 (by exact Nat.le_of_ble_eq_true rfl) (by rfl) rfl (fun w7 z7 hb_4_3 a7 => ?_)
  have S := S.upd a7 ge_4_3
  have hb_4 := hb_4.upd a7 n_4__4_3
  have hb_4_2 := hb_4_2.upd a7 n_4_2__4_3
  refine RL.nil (RC.back ?_)
  refine RC.draw rfl mxo (by kernel_rfl) ?_
  refine RQ.ev (.move rfl) rfl rfl ?_
  refine RQ.ev (.move rfl) rfl rfl ?_
  refine RQ.ev (.field0 fo147_0 rfl) rfl rfl ?_
  refine RQ.ev (.load1 sh3 rfl (hb_4_3.cell rfl)) rfl rfl ?_
  refine RQ.ev (.as (v' := _) (.shr rfl rfl (by decide)) (by exact u64_shr _ 31 (by decide))) rfl rfl ?_
  refine RQ.ev (.as (v' := _) (.bin rfl rfl rfl) (by exact u64_xor _ _)) rfl rfl ?_
  refine RQ.ev (.field0 fo147_1 rfl) rfl rfl ?_
  refine RQ.ev (.load1 sh35 rfl (hb_4_3.cell rfl)) rfl rfl ?_
  refine RQ.ev (.as (v' := _) (.bin rfl rfl rfl) (by exact u64_mul _ 1)) rfl rfl ?_
  refine RQ.ev (.assign rfl) rfl rfl ?_
  refine RQ.nil (fun w8 s9 => RC.back ?_)
  have S := S.trans s9
  have hb_4 := hb_4.sub s9
  have hb_4_2 := hb_4_2.sub s9
  have hb_4_3 := hb_4_3.sub s9
  refine RC.region rfl ?_
  refine RL.ev (.bin rfl rfl rfl) rfl rfl ?_
  refine RL.ev (.move rfl) rfl rfl ?_
  refine RL.nil (RC.again ?_)
  refine RC.seq ?_
  refine RC.region rfl ?_
  refine RL.ev (.bin rfl rfl rfl) rfl rfl ?_
  refine RL.nil (RC.back ?_)
  refine RC.seq ?_
  refine RC.cond_f rfl ?_
  refine RC.exit rfl (RC.back ?_)
  refine RC.seq ?_
  refine RC.region rfl ?_
  refine RL.ev (.move rfl) rfl rfl ?_
  refine RL.ev (.assign rfl) rfl rfl ?_
  refine RL.nil (RC.back ?_)
  refine RC.done (rs := [.tmp 2]) (vs := [_]) rfl rfl ⟨rfl, trivial⟩ ?_
  -- end 1
  exact ⟨rfl, S⟩

def rankOf (k : Int) : BitVec 64 := mixOf (BitVec.ofInt 64 k + 7#64)
def hashOf (k : Int) : Nat := (rankOf k).toNat % 1048576
theorem hashOf_lt (k : Int) : hashOf k < 1048576 := Nat.mod_lt _ (by decide)
def beforeK (a b : Int) : Bool := decide ((rankOf a).toNat < (rankOf b).toNat ∨ (rankOf a).toNat = (rankOf b).toNat ∧ a < b)

theorem c_rank (k : Int) (w : World) : FC Try.prog 71 [.int .i64 k] w (Val (u64 (rankOf k)) w) := by
  refine FC.intro Try.func71 rfl Try.ntmps71 rfl ?_
  have S := Sub.refl w
  refine RC.seq ?_
  refine RC.region rfl ?_
  refine RL.ev (.assign rfl) rfl rfl ?_
  refine RL.nil (RC.back ?_)
  refine RC.seq ?_
  refine RC.region rfl ?_
  refine RL.ev (.move rfl) rfl rfl ?_
  refine RL.ev (.as (v' := _) (.conv i2 i35 rfl) (by exact u64_of _)) rfl rfl ?_
  refine RL.ev (.as (v' := _) (.bin rfl rfl rfl) (by exact u64_add _ 7)) rfl rfl ?_
  refine RL.call rfl ok97 (c_mixOf _ w) rfl rfl ?_
  rintro _ w1 ⟨rfl, s2⟩
  have S := S.trans s2
  refine RL.ev (.assign rfl) rfl rfl ?_
  refine RL.nil (RC.back ?_)
  refine RC.done (rs := [.tmp 2]) (vs := [_]) rfl rfl ⟨rfl, trivial⟩ ?_
  -- end 1
  exact ⟨rfl, S⟩
theorem c_hash (k : Int) (w : World) : FC Try.prog 43 [.int .i64 k] w (Val (.int .i64 (hashOf k)) w) := by
  refine FC.intro Try.func43 rfl Try.ntmps43 rfl ?_
  have S := Sub.refl w
  have hlt := hashOf_lt k
  refine RC.seq ?_
  refine RC.region rfl ?_
  refine RL.ev (.assign rfl) rfl rfl ?_
  refine RL.nil (RC.back ?_)
  refine RC.seq ?_
  refine RC.region rfl ?_
  refine RL.ev (.move rfl) rfl rfl ?_
  refine RL.call rfl ok71 (c_rank _ w) rfl rfl ?_
  rintro _ w1 ⟨rfl, s2⟩
  have S := S.trans s2
  refine RL.ev (.as (v' := .int .u64 (hashOf k : Int)) (.bin rfl rfl rfl) (by exact u64_low20 _)) rfl rfl ?_
  refine RL.ev (.as (.conv i35 i3 rfl) (wi64 (y := (hashOf k : Int)) (by rfl) (by omega))) rfl rfl ?_
  refine RL.ev (.assign rfl) rfl rfl ?_
  refine RL.nil (RC.back ?_)
  refine RC.done (rs := [.tmp 2]) (vs := [_]) rfl rfl ⟨rfl, trivial⟩ ?_
  -- end 1
  exact ⟨rfl, S⟩
end Go.Proofs.Ytbfjobmebkhblaa
set_option linter.unusedVariables false
set_option linter.unusedSimpArgs false
namespace Go.Proofs.Ytbfjobmebkhblaa
open Go Go.XL
structure It where
  k : Int
  v : Int
  deriving DecidableEq
def It.cells (x : It) : List Value := [.int .i64 x.k, .int .i64 x.v]
def It.val (x : It) : Value := .agg x.cells.toArray
def It.ok (x : It) : Prop := I64 x.k ∧ I64 x.v
def it0 : It := ⟨0, 0⟩
/-- keys that rise -/
def Srt (l : List It) : Prop := l.Pairwise (fun x y => x.k < y.k)
theorem Srt.split {L R : List It} {it : It} (h : Srt (L ++ it :: R)) : Srt L ∧ Srt R ∧ (∀ y ∈ L, y.k < it.k) ∧ (∀ y ∈ R, it.k < y.k) := by
  unfold Srt at *
  rw [List.pairwise_append, List.pairwise_cons] at h
  exact ⟨h.1, h.2.1.2, fun y hy => h.2.2 y hy it (by simp), h.2.1.1⟩
theorem Srt.join {L R : List It} {it : It} (h1 : Srt L) (h2 : Srt R) (h3 : ∀ y ∈ L, y.k < it.k) (h4 : ∀ y ∈ R, it.k < y.k) : Srt (L ++ it :: R) := by
  unfold Srt at *
  rw [List.pairwise_append, List.pairwise_cons]
  refine ⟨h1, ⟨h4, h2⟩, fun x hx y hy => ?_⟩
  rcases List.mem_cons.1 hy with e | hy
  · rw [e]; exact h3 x hx
  · have := h3 x hx; have := h4 y hy; omega

def kAt (l : List It) (i : Nat) : Int := (l.getD i it0).k
def topAt (l : List It) : Nat → Int
  | 0 => -1
  | i + 1 => if topAt l i < 0 ∨ beforeK (kAt l i) (kAt l (topAt l i).toNat) = true then i else topAt l i
def topL (l : List It) : Int := topAt l l.length
theorem split_at {α : Type} {l : List α} {i : Nat} {x : α} (h : l[i]? = some x) : l = l.take i ++ x :: l.drop (i + 1) := by
  have h1 := lt_of_get h
  conv => lhs; rw [← List.take_append_drop i l]
  rw [List.drop_eq_getElem_cons h1, getElem_of h]
def tNode (g k v s a b : Int) : Node := ⟨1, g, k, v, s, a, b, 0, 0, 0, 0, 0, 0, 0, 0, 0⟩
inductive IsT (A : Ar) : Int → List It → Prop
  | nil : IsT A 0 []
  | node {r g a b : Int} {it : It} {L R : List It} : getA A r = some (tNode g it.k it.v ((L.length : Int) + R.length + 1) a b) → IsT A a L → IsT A b R → (∀ y ∈ L ++ R, beforeK it.k y.k = true) → Srt (L ++ it :: R) → IsT A r (L ++ it :: R)
theorem getA_0 (A : Ar) : getA A 0 = none := getA_neg (.inl (by decide))
theorem IsT.zero {A : Ar} {l : List It} (h : IsT A 0 l) : l = [] := by
  cases h with
  | nil => rfl
  | node h1 => rw [getA_0] at h1; cases h1
theorem IsT.ne {A : Ar} {r : Int} {l : List It} (h : IsT A r l) (hr : ¬ r = 0) : ∃ g a b it L R, l = L ++ it :: R ∧ getA A r = some (tNode g it.k it.v ((L.length : Int) + R.length + 1) a b) ∧ IsT A a L ∧ IsT A b R ∧ (∀ y ∈ L ++ R, beforeK it.k y.k = true) ∧ Srt (L ++ it :: R) := by
  cases h with
  | nil => exact absurd rfl hr
  | node h1 h2 h3 h4 h5 => exact ⟨_, _, _, _, _, _, rfl, h1, h2, h3, h4, h5⟩
/-- how many keys a reference has, as its node tells -/
theorem IsT.size {A : Ar} {r : Int} {l : List It} (h : IsT A r l) : (getA A r = none → l.length = 0) ∧ ∀ x, getA A r = some x → x.s = l.length := by
  cases h with
  | nil => exact ⟨fun _ => rfl, fun x h => (by rw [getA_0] at h; cases h)⟩
  | node h1 => exact ⟨fun h => (by rw [h1] at h; cases h), fun x h => (by rw [h1] at h; cases h; simp [tNode]; omega)⟩

theorem Srt.take {l : List It} (h : Srt l) (k : Nat) : Srt (l.take k) := List.Pairwise.sublist (List.take_sublist _ _) h
theorem Srt.drop {l : List It} (h : Srt l) (k : Nat) : Srt (l.drop k) := List.Pairwise.sublist (List.drop_sublist _ _) h
end Go.Proofs.Ytbfjobmebkhblaa
set_option linter.unusedVariables false
set_option linter.unusedSimpArgs false
namespace Go.Proofs.Ytbfjobmebkhblaa
open Go Go.XL
structure Bnd where
  low : Int
  high : Int
  hasLow : Bool
  hasHigh : Bool
  above : Int
  hasAbove : Bool
def Bnd.cells (b : Bnd) : List Value := [.int .i64 b.low, .int .i64 b.high, .bool b.hasLow, .bool b.hasHigh, .int .i64 b.above, .bool b.hasAbove]
def Bnd.bad (b : Bnd) (n : Int) : Prop := b.hasLow = true ∧ n ≤ b.low ∨ b.hasHigh = true ∧ b.high ≤ n ∨ b.hasAbove = true ∧ beforeK b.above n = false
instance (b : Bnd) (n : Int) : Decidable (b.bad n) := inferInstanceAs (Decidable (_ ∨ _))
def Bnd.below (b : Bnd) (n : Int) : Bnd := { b with above := n, hasAbove := true }
def Bnd.lo (b : Bnd) (n : Int) : Bnd := { b with above := n, hasAbove := true, high := n, hasHigh := true }
def Bnd.hi (b : Bnd) (n : Int) : Bnd := { b with above := n, hasAbove := true, low := n, hasLow := true }
/-- within bounds -/
def Bnd.holds (b : Bnd) (n : Int) : Prop := (b.hasLow = true → b.low < n) ∧ (b.hasHigh = true → n < b.high) ∧ (b.hasAbove = true → beforeK b.above n = true)
end Go.Proofs.Ytbfjobmebkhblaa
set_option linter.unusedVariables false
set_option linter.unusedSimpArgs false
namespace Go.Proofs.Ytbfjobmebkhblaa
open Go Go.XL
theorem u64_half (x : BitVec 64) (i : Nat) : Value.int .u64 (IntKind.u64.wrap (((x >>> i).toNat : Int).tdiv 2)) = u64 (x >>> (i + 1)) := by
  unfold u64
  have h : ((x >>> i).toNat : Int).tdiv 2 = ((x >>> (i + 1)).toNat : Int) := by
    rw [Int.tdiv_eq_ediv_of_nonneg (Int.natCast_nonneg _), BitVec.toNat_ushiftRight, BitVec.toNat_ushiftRight, Nat.shiftRight_succ]
    omega
  rw [h, wrap_u64 ⟨Int.natCast_nonneg _, by have := toNat_lt (x >>> (i + 1)); omega⟩]

theorem c_move (x : BitVec 64) (k : Nat) (hk : k ≤ 64) (w : World) : FC Try.prog 98 [u64 x, .int .i64 k] w (Val (u64 (x >>> k)) w) := by
  refine FC.intro Try.func98 rfl Try.ntmps98 rfl ?_
  have S := Sub.refl w
  refine RC.seq ?_
  refine RC.region rfl ?_
  refine RL.ev (.assign rfl) rfl rfl ?_
  refine RL.nil (RC.back ?_)
  refine RC.seq ?_
  refine RC.seq ?_
  refine RC.region rfl ?_
  refine RL.ev (.assign rfl) rfl rfl ?_
  refine RL.nil (RC.back ?_)
  refine RC.block ?_
  refine RC.loop (α := Nat) (fun i => [(0, u64 (x >>> i)), (1, .int .i64 (k : Int)), (5, .int .i64 (i : Int))]) (fun i w1 => i ≤ k ∧ Sub w w1) (fun i => k - i) 0 (keep_of (by repeat (first | exact trivial | refine And.intro rfl ?_))) (⟨Nat.zero_le _, S⟩) (fun i w1 hJ => ?_)
  obtain ⟨hi, S⟩ := hJ
  refine RC.seq ?_
  refine RC.seq ?_
  refine RC.region rfl ?_
  refine RL.ev (.move rfl) rfl rfl ?_
  refine RL.ev (.move rfl) rfl rfl ?_
  refine RL.ev (.bin rfl rfl rfl) rfl rfl ?_
  refine RL.nil (RC.back ?_)
  refine RC.cond_dec rfl (fun h2 => ?_) (fun h2 => ?_)
  ·
    refine RC.skip (RC.back ?_)
    refine RC.seq ?_
    refine RC.block ?_
    refine RC.region rfl ?_
    refine RL.ev (.move rfl) rfl rfl ?_
    refine RL.ev (.as (v' := u64 (x >>> (i + 1))) (.quo rfl rfl (by decide)) (by exact u64_half _ _)) rfl rfl ?_
    refine RL.ev (.assign rfl) rfl rfl ?_
    refine RL.nil (RC.back ?_)
    refine RC.region rfl ?_
    refine RL.ev (.move rfl) rfl rfl ?_
    refine RL.ev (.as (.bin rfl rfl rfl) (wi64 (y := ((i + 1 : Nat) : Int)) (by omega) (by omega))) rfl rfl ?_
    refine RL.ev (.assign rfl) rfl rfl ?_
    exact RL.nil (fun a ka => ⟨i + 1, ⟨by omega, S⟩, by omega, ka.keep (keep_of (by repeat (first | exact trivial | refine And.intro rfl ?_)))⟩)
  ·
    obtain rfl : i = k := by omega
    refine RC.exit rfl (RC.back ?_)
    refine RC.seq ?_
    refine RC.region rfl ?_
    refine RL.ev (.move rfl) rfl rfl ?_
    refine RL.ev (.assign rfl) rfl rfl ?_
    refine RL.nil (RC.back ?_)
    refine RC.done (rs := [.tmp 4]) (vs := [_]) rfl rfl ⟨rfl, trivial⟩ ?_
    -- end 1
    exact ⟨rfl, S⟩

theorem mixOf_eq (x : BitVec 64) : mixOf x = (let a := (x ^^^ (x >>> 30)) * 13787848793156543929#64; let b := (a ^^^ (a >>> 27)) * 10723151780598845931#64; b ^^^ (b >>> 31)) := by
  simp only [mixOf, BitVec.mul_one]
theorem c_refOf (x : BitVec 64) (w : World) : FC Try.prog 72 [u64 x] w (Val (u64 (mixOf x)) w) := by
  rw [mixOf_eq]
  refine FC.intro Try.func72 rfl Try.ntmps72 rfl ?_
  have S := Sub.refl w
  refine RC.seq ?_
  refine RC.region rfl ?_
  refine RL.ev (.assign rfl) rfl rfl ?_
  refine RL.nil (RC.back ?_)
  refine RC.seq ?_
  refine RC.region rfl ?_
  refine RL.ev (.move rfl) rfl rfl ?_
  refine RL.ev (.move rfl) rfl rfl ?_
  refine RL.call rfl ok98 (c_move _ 30 (by decide) w) rfl rfl ?_
  rintro _ w1 ⟨rfl, s2⟩
  have S := S.trans s2
  refine RL.ev (.as (v' := _) (.bin rfl rfl rfl) (by exact u64_xor _ _)) rfl rfl ?_
  refine RL.ev (.assign rfl) rfl rfl ?_
  refine RL.nil (RC.back ?_)
  refine RC.seq ?_
  refine RC.region rfl ?_
  refine RL.ev (.move rfl) rfl rfl ?_
  refine RL.ev (.as (v' := _) (.bin rfl rfl rfl) (by exact u64_mul _ 13787848793156543929)) rfl rfl ?_
  refine RL.ev (.assign rfl) rfl rfl ?_
  refine RL.nil (RC.back ?_)
  refine RC.seq ?_
  refine RC.region rfl ?_
  refine RL.ev (.move rfl) rfl rfl ?_
  refine RL.ev (.move rfl) rfl rfl ?_
  refine RL.call rfl ok98 (c_move _ 27 (by decide) w1) rfl rfl ?_
  rintro _ w3 ⟨rfl, s4⟩
  have S := S.trans s4
  refine RL.ev (.as (v' := _) (.bin rfl rfl rfl) (by exact u64_xor _ _)) rfl rfl ?_
  refine RL.ev (.assign rfl) rfl rfl ?_
  refine RL.nil (RC.back ?_)
  refine RC.seq ?_
  refine RC.region rfl ?_
  refine RL.ev (.move rfl) rfl rfl ?_
  refine RL.ev (.as (v' := _) (.bin rfl rfl rfl) (by exact u64_mul _ 10723151780598845931)) rfl rfl ?_
  refine RL.ev (.assign rfl) rfl rfl ?_
  refine RL.nil (RC.back ?_)
  refine RC.seq ?_
  refine RC.region rfl ?_
  refine RL.ev (.move rfl) rfl rfl ?_
  refine RL.ev (.move rfl) rfl rfl ?_
  refine RL.call rfl ok98 (c_move _ 31 (by decide) w3) rfl rfl ?_
  rintro _ w5 ⟨rfl, s6⟩
  have S := S.trans s6
  refine RL.ev (.as (v' := _) (.bin rfl rfl rfl) (by exact u64_xor _ _)) rfl rfl ?_
  refine RL.ev (.assign rfl) rfl rfl ?_
  refine RL.nil (RC.back ?_)
  refine RC.done (rs := [.tmp 2]) (vs := [_]) rfl rfl ⟨rfl, trivial⟩ ?_
  -- end 1
  exact ⟨rfl, S⟩
theorem c_refRank (k : Int) (w : World) : FC Try.prog 44 [.int .i64 k] w (Val (u64 (rankOf k)) w) := by
  refine FC.intro Try.func44 rfl Try.ntmps44 rfl ?_
  have S := Sub.refl w
  refine RC.seq ?_
  refine RC.region rfl ?_
  refine RL.ev (.assign rfl) rfl rfl ?_
  refine RL.nil (RC.back ?_)
  refine RC.seq ?_
  refine RC.region rfl ?_
  refine RL.ev (.move rfl) rfl rfl ?_
  refine RL.ev (.as (v' := _) (.conv i2 i35 rfl) (by exact u64_of _)) rfl rfl ?_
  refine RL.ev (.as (v' := _) (.bin rfl rfl rfl) (by exact u64_add _ 7)) rfl rfl ?_
  refine RL.call rfl ok72 (c_refOf _ w) rfl rfl ?_
  rintro _ w1 ⟨rfl, s2⟩
  have S := S.trans s2
  refine RL.ev (.assign rfl) rfl rfl ?_
  refine RL.nil (RC.back ?_)
  refine RC.done (rs := [.tmp 2]) (vs := [_]) rfl rfl ⟨rfl, trivial⟩ ?_
  -- end 1
  exact ⟨rfl, S⟩
end Go.Proofs.Ytbfjobmebkhblaa
set_option linter.unusedVariables false
set_option linter.unusedSimpArgs false
namespace Go.Proofs.Ytbfjobmebkhblaa
open Go Go.XL
/-- all nodes that were there are as they were -/
structure Ext (A A' : Ar) : Prop where
  len : A'.nodes.length = A.nodes.length
  keep : ∀ (i : Nat) x, A.nodes[i]? = some x → ¬ x.kind = 0 → A'.nodes[i]? = some x
theorem Ext.refl (A : Ar) : Ext A A := ⟨rfl, fun _ _ h _ => h⟩
theorem Ext.trans {A B C : Ar} (h : Ext A B) (k : Ext B C) : Ext A C := ⟨k.len.trans h.len, fun i x hx hk => k.keep i x (h.keep i x hx hk) hk⟩
theorem Ext.get {A A' : Ar} {r : Int} {x : Node} (h : Ext A A') (hg : getA A r = some x) : getA A' r = some x := by
  have h1 := getA_get hg
  rw [← getA_same (A := A) (B := A') (by rw [h1.1, h.keep _ _ h1.1 h1.2])]
  exact hg
theorem make_ext {A : Ar} {x : Node} (hA : AOk A) (h : 0 < A.free.length) : Ext A (makeA A x) := by
  refine ⟨by simp [makeA], fun i y hy hk => ?_⟩
  have hin := lastAt_in hA h
  simp only [makeA]
  rw [List.getElem?_set_ne, hy]
  intro e
  have := (hA.kind i y hy).2 (by
    have h2 := List.mem_of_getElem? (lastAt_get h)
    rwa [show lastAt A = (i : Int) by omega] at h2)
  exact hk this

/-- an arena, and what is wrong -/
abbrev St := Ar × Int
/-- s' comes from s; at most n nodes were made -/
structure Gs (n : Nat) (s s' : St) : Prop where
  ext : Ext s.1 s'.1
  ok : AOk s'.1
  free : s.1.free.length ≤ s'.1.free.length + n
  stay : ¬ s.2 = 0 → s'.2 = s.2
  full : s.2 = 0 → ¬ s'.2 = 0 → s'.2 = 2 ∧ s.1.free.length < n
theorem Gs.back {n : Nat} {s s' : St} (h : Gs n s s') (h0 : s'.2 = 0) : s.2 = 0 := Classical.byContradiction fun e => e (by rw [← h.stay e]; exact h0)
theorem Gs.refl {s : St} (h : AOk s.1) : Gs 0 s s := ⟨Ext.refl _, h, Nat.le_refl _, fun _ => rfl, fun h k => absurd h k⟩
theorem Gs.mono {n m : Nat} {s s' : St} (h : Gs n s s') (hn : n ≤ m) : Gs m s s' := ⟨h.ext, h.ok, by have := h.free; omega, h.stay, fun a b => ⟨(h.full a b).1, by have := (h.full a b).2; omega⟩⟩
theorem Gs.trans {n m : Nat} {a b c : St} (h : Gs n a b) (k : Gs m b c) : Gs (n + m) a c := by
  refine ⟨h.ext.trans k.ext, k.ok, by have := h.free; have := k.free; omega, fun e => ?_, fun e e2 => ?_⟩
  · have h1 := h.stay e
    rw [k.stay (by rw [h1]; exact e), h1]
  · by_cases q : b.2 = 0
    · have h1 := k.full q e2; have h2 := h.free; exact ⟨h1.1, by omega⟩
    · have h1 := h.full e q
      exact ⟨by rw [k.stay q, h1.1], by omega⟩
/-- the size that a node tells -/
def sizeA (A : Ar) (r : Int) : Int := match getA A r with
  | none => 0
  | some y => y.s
/-- one node is made -/
def MkX (s : St) (x : Node) (s' : St) (r : Int) : Prop :=
  (¬ s.2 = 0 ∧ s' = s ∧ r = 0) ∨ (s.2 = 0 ∧ mayMake s.1 x ∧ 0 < s.1.free.length ∧ s' = (makeA s.1 x, 0) ∧ r = makeR s.1) ∨
  (s.2 = 0 ∧ mayMake s.1 x ∧ s.1.free.length = 0 ∧ s' = (s.1, 2) ∧ r = 0) ∨ (s.2 = 0 ∧ ¬ mayMake s.1 x ∧ s' = (s.1, 1) ∧ r = 0)
theorem MkX.gs {s s' : St} {x : Node} {r : Int} (h : MkX s x s' r) (hA : AOk s.1) (hm : s.2 = 0 → mayMake s.1 x) : Gs 1 s s' := by
  rcases h with ⟨h0, rfl, rfl⟩ | ⟨h0, hm, hf, rfl, rfl⟩ | ⟨h0, hm, hf, rfl, rfl⟩ | ⟨h0, hn, rfl, rfl⟩
  · exact (Gs.refl hA).mono (by omega)
  · refine ⟨make_ext hA hf, make_ok hm hf, ?_, fun e => absurd h0 e, fun _ e => absurd rfl e⟩
    simp only [makeA, List.length_take]; omega
  · exact ⟨Ext.refl _, hA, by omega, fun e => absurd h0 e, fun _ _ => ⟨rfl, by omega⟩⟩
  · exact absurd (hm h0) hn
theorem MkX.u64 {s s' : St} {x : Node} {r : Int} (h : MkX s x s' r) : U64 r := by
  rcases h with ⟨_, _, rfl⟩ | ⟨_, hm, hf, _, rfl⟩ | ⟨_, _, _, _, rfl⟩ | ⟨_, _, _, rfl⟩
  · unfold U64; decide
  · exact ofR_U64 (make_isR hm.1 hf)
  · unfold U64; decide
  · unfold U64; decide
theorem MkX.get {s s' : St} {x : Node} {r : Int} (h : MkX s x s' r) (h0 : s'.2 = 0) : s.2 = 0 ∧ mayMake s.1 x ∧ 0 < s.1.free.length ∧ getA s'.1 r = some { x with gen := genAt s.1 (lastAt s.1) } ∧ Ext s.1 s'.1 := by
  rcases h with ⟨h1, rfl, rfl⟩ | ⟨h1, hm, hf, rfl, rfl⟩ | ⟨_, _, _, rfl, _⟩ | ⟨_, _, rfl, _⟩
  · exact absurd h0 h1
  · exact ⟨h1, hm, hf, get_made hm hf, make_ext hm.1 hf⟩
  · exact absurd h0 (show ¬ (2 : Int) = 0 by decide)
  · exact absurd h0 (show ¬ (1 : Int) = 0 by decide)
def getN (A : Ar) (r : Int) : Node := (getA A r).getD (bareN 0)
theorem getN_yes {A : Ar} {r : Int} {x : Node} (h : getA A r = some x) : getN A r = x := by unfold getN; rw [h]; rfl
theorem getN_v (A : Ar) (r : Int) : ∃ e, getV A r = .tuple #[(getN A r).val, .int .i64 e] := by
  unfold getN
  cases h : getA A r with
  | none => exact ⟨4, getV_no h⟩
  | some x => exact ⟨0, getV_yes h⟩
def wvC (na fa : Option Addr) (nc fc : Nat) (A : Ar) (bad : Int) : List Value := [.slice na A.nodes.length nc, .slice fa A.free.length fc, .int .i64 bad]
def wvA (na fa : Option Addr) (nc fc : Nat) (A : Ar) : List Value := [.slice na A.nodes.length nc, .slice fa A.free.length fc]
theorem row_pref {w : World} {b : Nat} {xs ys : List Value} {e : TypeId} (h : Has w b (xs ++ ys) e) : Row w ⟨b, 0, none⟩ xs := fun i v hv => h.row i v (by rw [List.getElem?_append_left (lt_of_get hv)]; exact hv)
def FoG (ty : TypeId) (b : Nat) (s : St) (C : Nat → Prop) (u : World) : Prop :=
  C b ∧ ∃ na fa nc fc M, Has u b (wvC na fa nc fc s.1 s.2) ty ∧ s.1.nodes.length ≤ nc ∧ s.1.free.length ≤ fc ∧ Ft M (fun u => ArR u na fa s.1) u ∧ ¬ M b ∧ ∀ k, M k → C k
theorem FoG.ft {ty : TypeId} {b : Nat} {s : St} {M : Nat → Prop} {w : World} {na fa : Option Addr} {nc fc : Nat} (h : Has w b (wvC na fa nc fc s.1 s.2) ty) (h1 : s.1.nodes.length ≤ nc) (h2 : s.1.free.length ≤ fc) (h3 : Ft M (fun u => ArR u na fa s.1) w) (h4 : ¬ M b) :
    Ft (fun k => k = b ∨ M k) (FoG ty b s (fun k => k = b ∨ M k)) w :=
  ⟨fun k hk => hk.elim (fun e => e ▸ h.lt) (h3.lt k), fun u a => ⟨.inl rfl, na, fa, nc, fc, M, h.step a (fun hn => hn (.inl rfl)), h1, h2, h3.step a (fun k hk hn => hn (.inr hk)), h4, fun k hk => .inr hk⟩⟩
theorem FoG.nok {ty : TypeId} {b : Nat} {s : St} {C : Nat → Prop} {u : World} (h : FoG ty b s C u) : ∀ x ∈ s.1.nodes, x.ok := by
  obtain ⟨_, na, fa, nc, fc, M, _, _, _, h, _⟩ := h
  exact h.now.nok
theorem place_of_at {a : Nat} (h : a < 512) : placeR ((a : Int) + 1) = a ∧ genR ((a : Int) + 1) = 0 ∧ U64 ((a : Int) + 1) ∧ rightR ((a : Int) + 1) = true := by
  have hn : nodeR ((a : Int) + 1) := (nodeR_iff _).2 (by omega)
  refine ⟨by unfold placeR; rw [if_pos hn]; omega, by unfold genR; rw [if_pos hn]; omega, by unfold U64; omega, hn.2⟩
/-- the first i of the free places of a built arena -/
def freeB (size i : Nat) : List Int := (List.range i).map fun (j : Nat) => (size : Int) - 1 - j
theorem freeB_len (size i : Nat) : (freeB size i).length = i := by simp [freeB]
theorem freeB_succ (size i : Nat) : freeB size (i + 1) = freeB size i ++ [(size : Int) - 1 - i] := by simp [freeB, List.range_succ]
theorem freeB_mem {size i : Nat} {x : Int} : x ∈ freeB size i ↔ (size : Int) - i ≤ x ∧ x < size := by
  unfold freeB
  rw [List.mem_map]
  constructor
  · rintro ⟨j, hj, rfl⟩
    have := List.mem_range.1 hj
    omega
  · rintro ⟨h1, h2⟩
    exact ⟨((size : Int) - 1 - x).toNat, List.mem_range.2 (by omega), by omega⟩
theorem freeB_nodup (size : Nat) : ∀ i, (freeB size i).Nodup
  | 0 => by simp [freeB]
  | i + 1 => by
    rw [freeB_succ, List.nodup_append]
    refine ⟨freeB_nodup size i, by simp, fun a ha b hb e => ?_⟩
    rw [List.mem_singleton] at hb
    have := freeB_mem.1 ha
    omega
theorem row_set0 {w : World} {b : Nat} {e : TypeId} {sz : Nat} {rows : List (List Value)} {r : List Value} {i : Nat} (h : Has w b (splice rows.flatten (i * sz) r) e) (hl : ∀ r ∈ rows, r.length = sz) (hi : i < rows.length) (hr : r.length = sz) : Has w b (rows.set i r).flatten e := by
  have := Has.row_set (extra := []) (rows := rows) (i := i) (sz := sz) (r := r) (by rw [List.append_nil]; exact h) hl hi hr
  rw [List.append_nil] at this
  exact this
theorem slDrop {w : World} {a : Option Addr} {sz : Nat} {rows : List (List Value)} (h : Sl w a sz rows) (k : Nat) {c : Nat} (hc : rows.length ≤ c) : Sl w (if c = k then a else a.map (·.add (k * sz))) sz (rows.drop k) := by
  by_cases e : c = k
  · rw [if_pos e, List.drop_eq_nil_of_le (by omega)]; exact Sl.nil _ _ _
  · rw [if_neg e]
    refine ⟨fun hne => ?_, fun i r hr => ?_⟩
    · have := h.some (by intro e2; rw [e2] at hne; simp at hne)
      cases a with
      | none => simp at this
      | some x => rfl
    · rw [List.getElem?_drop] at hr
      have h1 := h.row (k + i) r hr
      have := h.some (by intro e2; rw [e2] at hr; simp at hr)
      cases a with
      | none => simp at this
      | some x =>
        simp only [Option.map_some, Option.getD_some] at h1 ⊢
        rw [add_add, ← Nat.add_mul]
        exact h1
theorem slTakeM {α : Type} {w : World} {a : Option Addr} {sz : Nat} {f : α → List Value} {l : List α} (h : Sl w a sz (l.map f)) (k : Nat) : Sl w a sz ((l.take k).map f) := by rw [List.map_take]; exact h.take k
theorem slDropM {α : Type} {w : World} {a : Option Addr} {sz : Nat} {f : α → List Value} {l : List α} (h : Sl w a sz (l.map f)) (k : Nat) {c : Nat} (hc : l.length ≤ c) : Sl w (if c = k then a else a.map (·.add (k * sz))) sz ((l.drop k).map f) := by rw [List.map_drop]; exact slDrop h k (by rw [List.length_map]; exact hc)
end Go.Proofs.Ytbfjobmebkhblaa
set_option linter.unusedVariables false
set_option linter.unusedSimpArgs false
namespace Go.Proofs.Ytbfjobmebkhblaa
open Go Go.XL
theorem it_rows {l : List It} : ∀ r ∈ l.map It.cells, r.length = 2 := fun r hr => by obtain ⟨x, _, rfl⟩ := List.mem_map.1 hr; rfl
def putStep (key v : Int) (s : List It × Bool) (x : It) : List It × Bool :=
  (if x.k = key then (if s.2 = false ∧ key ≤ x.k then s.1 ++ [⟨key, v⟩] else s.1) else (if s.2 = false ∧ key ≤ x.k then s.1 ++ [⟨key, v⟩] else s.1) ++ [x], s.2 || decide (key ≤ x.k))
def putS (l : List It) (key v : Int) : Nat → List It × Bool
  | 0 => ([], false)
  | i + 1 => putStep key v (putS l key v i) (l.getD i it0)
def putR (l : List It) (key v : Int) : List It := if (putS l key v l.length).2 then (putS l key v l.length).1 else (putS l key v l.length).1 ++ [⟨key, v⟩]
theorem putStep_len {key v : Int} {s : List It × Bool} {x : It} {i : Nat} (h : s.1.length ≤ i + (if s.2 then 1 else 0)) : (putStep key v s x).1.length ≤ i + 1 + (if (putStep key v s x).2 then 1 else 0) := by
  obtain ⟨o, d⟩ := s
  simp only [putStep] at h ⊢
  by_cases h2 : key ≤ x.k
  · rw [decide_eq_true h2, Bool.or_true, if_pos rfl]
    cases d <;> simp only [Bool.false_eq_true, if_false, if_true, true_and, false_and] at h ⊢
    · rw [if_pos h2]; split <;> simp <;> omega
    · split <;> simp <;> omega
  · rw [decide_eq_false h2, Bool.or_false]
    cases d <;> simp only [Bool.false_eq_true, if_false, if_true, true_and, false_and] at h ⊢
    · rw [if_neg h2]; split <;> simp <;> omega
    · split <;> simp <;> omega
theorem putS_len (l : List It) (key v : Int) : ∀ i, (putS l key v i).1.length ≤ i + (if (putS l key v i).2 then 1 else 0)
  | 0 => by simp [putS]
  | i + 1 => putStep_len (putS_len l key v i)
theorem putS_step {l : List It} {key v : Int} {i : Nat} {x : It} (h : l[i]? = some x) : putS l key v (i + 1) = (if x.k = key then (if (putS l key v i).2 = false ∧ key ≤ x.k then (putS l key v i).1 ++ [⟨key, v⟩] else (putS l key v i).1) else (if (putS l key v i).2 = false ∧ key ≤ x.k then (putS l key v i).1 ++ [⟨key, v⟩] else (putS l key v i).1) ++ [x], (putS l key v i).2 || decide (key ≤ x.k)) := by
  have : l.getD i it0 = x := by rw [List.getD_eq_getElem?_getD, h]; rfl
  rw [putS, this, putStep]
theorem putS_srt {l : List It} (hs : Srt l) (key v : Int) : ∀ i, i ≤ l.length → (putS l key v i).2 = (l.take i).any (fun x => decide (key ≤ x.k)) ∧ (putS l key v i).1 = (l.take i).filter (fun x => decide (x.k < key)) ++ (if (putS l key v i).2 then ⟨key, v⟩ :: (l.take i).filter (fun x => decide (key < x.k)) else [])
  | 0, _ => by simp [putS]
  | i + 1, hi => by
    obtain ⟨x, hx⟩ := getSome (l := l) (i := i) (by omega)
    obtain ⟨h1, h2⟩ := putS_srt hs key v i (by omega)
    have ht : l.take (i + 1) = l.take i ++ [x] := by rw [List.take_add_one, hx]; rfl
    rw [putS_step hx, ht, h1]
    simp only [List.any_append, List.any_cons, List.any_nil, Bool.or_false, List.filter_append, List.filter_cons, List.filter_nil]
    refine ⟨trivial, ?_⟩
    rw [h1] at h2
    have hlow : ∀ y ∈ l.take i, y.k < x.k := fun y hy => by
      obtain ⟨j, hj⟩ := List.getElem?_of_mem hy
      have hjl := lt_of_get hj
      rw [List.length_take] at hjl
      rw [List.getElem?_take_of_lt (by omega)] at hj
      have := List.pairwise_iff_getElem.1 hs j i (by omega) (by omega) (by omega)
      rw [getElem_of hj, getElem_of hx] at this
      exact this
    cases ha : (l.take i).any (fun x => decide (key ≤ x.k)) with
    | false =>
      rw [ha] at h2
      simp only [Bool.false_eq_true, if_false, List.append_nil] at h2
      simp only [true_and, Bool.false_or]
      rw [h2]
      have hno : (l.take i).filter (fun x => decide (key < x.k)) = [] := by
        rw [List.filter_eq_nil_iff]
        intro y hy
        have := List.any_eq_false.1 ha y hy
        simp only [decide_eq_true_eq] at this ⊢
        omega
      rw [hno]
      by_cases e1 : x.k = key
      · rw [if_pos e1, if_pos (by omega), decide_eq_false (show ¬ x.k < key by omega), decide_eq_true (show key ≤ x.k by omega), decide_eq_false (show ¬ key < x.k by omega)]
        simp
      · rw [if_neg e1]
        by_cases e2 : key ≤ x.k
        · rw [if_pos e2, decide_eq_false (show ¬ x.k < key by omega), decide_eq_true e2, decide_eq_true (show key < x.k by omega)]
          simp
        · rw [if_neg e2, decide_eq_true (show x.k < key by omega), decide_eq_false e2]
          simp
    | true =>
      rw [ha] at h2
      simp only [if_true] at h2
      obtain ⟨y, hy, hyk⟩ := List.any_eq_true.1 ha
      have hyk := of_decide_eq_true hyk
      have := hlow y hy
      simp only [Bool.true_or, if_true]
      rw [if_neg (by omega), if_neg (by rintro ⟨e, _⟩; cases e), h2, decide_eq_false (show ¬ x.k < key by omega), decide_eq_true (show key < x.k by omega)]
      simp
theorem putR_srt {l : List It} (hs : Srt l) (key v : Int) : putR l key v = l.filter (fun x => decide (x.k < key)) ++ ⟨key, v⟩ :: l.filter (fun x => decide (key < x.k)) := by
  obtain ⟨h1, h2⟩ := putS_srt hs key v l.length (Nat.le_refl _)
  rw [List.take_length] at h1 h2
  unfold putR
  rw [h2, h1]
  cases ha : l.any (fun x => decide (key ≤ x.k)) with
  | true => rfl
  | false =>
    have hno : l.filter (fun x => decide (key < x.k)) = [] := by
      rw [List.filter_eq_nil_iff]
      intro y hy
      have := List.any_eq_false.1 ha y hy
      simp only [decide_eq_true_eq] at this ⊢
      omega
    rw [hno]; simp
theorem putR_ok {l : List It} (hs : Srt l) (key v : Int) : Srt (putR l key v) := by
  rw [putR_srt hs]
  exact Srt.join (List.Pairwise.filter _ hs) (List.Pairwise.filter _ hs) (fun y hy => of_decide_eq_true (List.mem_filter.1 hy).2) (fun y hy => of_decide_eq_true (List.mem_filter.1 hy).2)
theorem putR_mem {l : List It} (hs : Srt l) {key v : Int} {y : It} : y ∈ putR l key v ↔ y = ⟨key, v⟩ ∨ y ∈ l ∧ ¬ y.k = key := by
  rw [putR_srt hs, List.mem_append, List.mem_cons, List.mem_filter, List.mem_filter, decide_eq_true_iff, decide_eq_true_iff]
  constructor
  · rintro (h | h | h)
    · exact .inr ⟨h.1, by omega⟩
    · exact .inl h
    · exact .inr ⟨h.1, by omega⟩
  · rintro (h | h)
    · exact .inr (.inl h)
    · rcases Int.lt_or_lt_of_ne h.2 with q | q
      · exact .inl ⟨h.1, q⟩
      · exact .inr (.inr ⟨h.1, q⟩)
theorem putR_len (l : List It) (key v : Int) : (putR l key v).length ≤ l.length + 1 := by
  have := putS_len l key v l.length
  unfold putR
  split
  · rename_i h; rw [if_pos h] at this; exact this
  · rename_i h; rw [if_neg h] at this; simp; omega
theorem c_refPut (l : List It) (a : Option Addr) (c m : Nat) (hm : m = l.length) (key v : Int) (w : World) (hl : Sl w a 2 (l.map It.cells)) (hb : l.length ≤ 1000000) :
    FC Try.prog 16 [.slice a m c, .int .i64 key, .int .i64 v] w (fun u w' => ∃ a' c', u = .slice a' ((putR l key v).map It.cells).length c' ∧ Ows w.heap.size w' 29 2 (.slice a' ((putR l key v).map It.cells).length c') ((putR l key v).map It.cells) ∧ Sub w w') := by
  subst hm
  have hpl := putS_len l key v
  refine FC.intro Try.func16 rfl Try.ntmps16 rfl ?_
  have S := Sub.refl w
  refine RC.seq ?_
  refine RC.region rfl ?_
  refine RL.ev (.assign rfl) rfl rfl ?_
  refine RL.nil (RC.back ?_)
  refine RC.seq ?_
  refine RC.region rfl ?_
  refine RL.buildSlice0 sl26 rfl rfl (fun b_11 w_11 e_11 z_11 hb_11 s_11 => ?_)
  have ge_11 := S.le e_11
  have S := S.trans s_11
  refine RL.ev (.assign rfl) rfl rfl ?_
  refine RL.nil (RC.back ?_)
  refine RC.seq ?_
  refine RC.region rfl ?_
  refine RL.ev (.assign rfl) rfl rfl ?_
  refine RL.nil (RC.back ?_)
  refine RC.seq ?_
  refine RC.seq ?_
  refine RC.region rfl ?_
  refine RL.ev (.move rfl) rfl rfl ?_
  refine RL.ev (.len sl26 rfl) rfl rfl ?_
  refine RL.ev (.move rfl) rfl rfl ?_
  refine RL.nil (RC.back ?_)
  refine RC.block ?_
  refine RC.loop (α := Nat × List It × Bool × Option Addr × Nat × Nat) (fun x => [(1, .int .i64 key), (2, .int .i64 v), (7, .slice x.2.2.2.1 x.2.2.2.2.1 x.2.2.2.2.2), (8, .bool x.2.2.1), (12, .slice a l.length c), (13, .int .i64 (l.length : Int)), (14, .int .i64 (x.1 : Int))]) (fun x w1 => (x.1 ≤ l.length ∧ putS l key v x.1 = (x.2.1, x.2.2.1)) ∧ Ows w.heap.size w1 29 2 (.slice x.2.2.2.1 x.2.2.2.2.1 x.2.2.2.2.2) (x.2.1.map It.cells) ∧ Sub w w1) (fun x => l.length - x.1) (0, [], false, some ⟨b_11, 0, none⟩, 0, 0) (keep_of (by repeat (first | exact trivial | refine And.intro rfl ?_))) (⟨⟨Nat.zero_le _, rfl⟩, Ows.lit0 hb_11 (by omega), S⟩) (fun x w1 hJ => ?_)
  obtain ⟨i, o, d, ao, mo, co⟩ := x; obtain ⟨⟨hi, hp⟩, o7, S⟩ := hJ; simp only [] at hi hp o7; obtain rfl := o7.sl.2; have hol := hpl i; rw [hp] at hol; simp only [] at hol; have hol2 : o.length ≤ i + 1 := Nat.le_trans hol (by split <;> omega); have szB := S.size
  refine RC.seq ?_
  refine RC.region rfl ?_
  refine RL.ev (.bin rfl rfl rfl) rfl rfl ?_
  refine RL.nil (RC.back ?_)
  refine RC.seq ?_
  refine RC.cond_dec rfl (fun h2 => ?_) (fun h2 => ?_)
  ·
    obtain ⟨x, hx⟩ := getSome (l := l) (i := i) (by omega)
    have hst := putS_step (key := key) (v := v) hx
    rw [hp] at hst
    simp only [] at hst
    refine RC.skip (RC.back ?_)
    refine RC.seq ?_
    refine RC.block ?_
    refine RC.seq ?_
    refine RC.region rfl ?_
    refine RL.ev (.indexS sl26 rfl rfl (by omega) (hl.is (i := 0) (by simp only [List.length_map, List.length_cons, List.length_nil]; omega))) rfl rfl ?_
    refine RL.ev (.loadR (x.cells) sh29 rfl ((hl.sub S).rowAt (enc := It.cells) (i := i) hx) rfl) rfl rfl ?_
    refine RL.alloc ze29 rfl rfl (fun b_10 w_10 e_10 z_10 hb_10 s_10 => ?_)
    have ge_10 := S.le e_10
    have d_o7_b_10 := o7.neNew e_10
    have S := S.trans s_10
    have o7 := o7.sub s_10
    have szB := Nat.le_trans szB s_10.size
    refine RL.store sh29 rfl rfl rfl hb_10 (by exact Nat.le_of_ble_eq_true rfl) (by rfl) rfl (fun w3 z3 hb_10 a3 => ?_)
    have S := S.upd a3 ge_10
    have o7 := o7.updD a3 d_o7_b_10
    have szB := Nat.le_trans szB a3.size
    have hb_10 : Has w3 b_10 (x.cells) _ := hb_10.now (by kernel_rfl)
    refine RL.nil (RC.back ?_)
    refine RC.cutx (α := List It × Bool × Option Addr × Nat × Nat) (fun y_ => [(1, .int .i64 key), (2, .int .i64 v), (7, .slice y_.2.2.1 y_.2.2.2.1 y_.2.2.2.2), (8, .bool y_.2.1), (10, .pointer (some ⟨b_10, 0, none⟩)), (12, .slice a l.length c), (13, .int .i64 (l.length : Int)), (14, .int .i64 (i : Int))]) (fun y_ w4 => (y_.1 = (if d = false ∧ key ≤ x.k then o ++ [⟨key, v⟩] else o) ∧ y_.2.1 = (d || decide (key ≤ x.k)) ∧ y_.1.length ≤ i + 2) ∧ Ows w.heap.size w4 29 2 (.slice y_.2.2.1 y_.2.2.2.1 y_.2.2.2.2) (y_.1.map It.cells) ∧ Has w4 b_10 x.cells 29 ∧ (∀ k, ob (.slice y_.2.2.1 y_.2.2.2.1 y_.2.2.2.2) = some k → k ≠ b_10) ∧ Sub w w4) ?_ (fun y_ w4 hJ => ?_)
    ·
      refine RC.seq ?_
      refine RC.region rfl ?_
      refine RL.ev (.move rfl) rfl rfl ?_
      refine RL.ev (.not rfl) rfl rfl ?_
      refine RL.ev (.move rfl) rfl rfl ?_
      refine RL.splitB 20 rfl (fun h5 => ?_) (fun h5 => ?_)
      ·
        have hd : d = false := (by simpa using h5)
        refine RL.ev (.field0 fo29_0 rfl) rfl rfl ?_
        refine RL.ev (.load1 sh2 rfl (hb_10.cell rfl)) rfl rfl ?_
        refine RL.ev (.move rfl) rfl rfl ?_
        refine RL.ev (.bin rfl rfl rfl) rfl rfl ?_
        refine RL.ev (.pick_t rfl rfl) rfl rfl ?_
        refine RL.nil (RC.back ?_)
        refine RC.cond_dec rfl (fun h6 => ?_) (fun h6 => ?_)
        ·
          have hk := h6
          refine RC.seq ?_
          refine RC.region rfl ?_
          refine RL.ev (.move rfl) rfl rfl ?_
          refine RL.ev (.move rfl) rfl rfl ?_
          refine RL.ev (.move rfl) rfl rfl ?_
          refine RL.ev (.buildS ze29 pl29 rfl rfl) rfl rfl ?_
          refine RL.buildSlice1 sl26 _ ze29 rfl rfl rfl rfl rfl rfl rfl (fun b_30 w_30 e_30 z_30 hb_30 s_30 => ?_)
          have ge_30 := S.le e_30
          have n_10__30 := hb_10.ne e_30
          have d_o7_b_30 := o7.neNew e_30
          have S := S.trans s_30
          have o7 := o7.sub s_30
          have szB := Nat.le_trans szB s_30.size
          have hb_10 := hb_10.sub s_30
          have sz_31 := S.size
          have ltb_10_31 := hb_10.lt
          have ltb_30_31 := hb_30.lt
          refine RL.append2 (base := w.heap.size) (rows := o.map It.cells) (news := [_]) sl26 ze29 rfl rfl rfl rfl (.inl o7) (Has.slOne hb_30) rfl (by intro r hr; rw [List.mem_singleton] at hr; subst hr; rfl) rfl (by (try simp only [List.length_map, List.length_nil, List.length_append, List.length_cons]); omega) (by (try simp only [List.length_map, List.length_nil, List.length_append, List.length_cons]); omega) (by omega) rfl rfl (fun v_31 w_31 hc_31 ho_31 ag_31 ob_31 => ?_)
          have o31 := ho_31 (.inl (by simp))
          rw [show _ ++ [_] = ((o ++ [(⟨key, v⟩ : It)]).map It.cells) from by rw [List.map_append]; rfl] at o31
          have d_o31_b_10 := obNe ob_31 d_o7_b_10 hb_10.lt
          have S := S.agrN ag_31 (fun k e => Nat.le_trans (by omega) e.2)
          have szB := Nat.le_trans szB ag_31.size
          have hb_10 := hb_10.step ag_31 (fun e => d_o7_b_10 _ e.1 rfl)
          obtain ⟨a_31, c_31, rfl, k_31⟩ := o31.form
          refine RL.ev (.assign rfl) rfl rfl ?_
          refine RL.nil (RC.back ?_)
          refine RC.region rfl ?_
          refine RL.ev (.assign rfl) rfl rfl ?_
          exact RL.nil (fun a ka => ⟨(o ++ [⟨key, v⟩], true, a_31, _, c_31), ⟨⟨by rw [if_pos ⟨hd, hk⟩], by rw [decide_eq_true hk, Bool.or_true], by simp; omega⟩, o31, hb_10, d_o31_b_10, S⟩, ka.keep (keep_of (by repeat (first | exact trivial | refine And.intro rfl ?_)))⟩)
        ·
          have hk := h6
          exact RC.skip (fun a ka => ⟨(o, d, ao, _, co), ⟨⟨by rw [if_neg (fun e => hk e.2)], by rw [decide_eq_false hk, Bool.or_false], by simp; omega⟩, o7, hb_10, d_o7_b_10, S⟩, ka.keep (keep_of (by repeat (first | exact trivial | refine And.intro rfl ?_)))⟩)
      ·
        have hd : d = true := (by simpa using h5)
        refine RL.off rfl rfl ?_
        refine RL.off rfl rfl ?_
        refine RL.off rfl rfl ?_
        refine RL.off rfl rfl ?_
        refine RL.ev (.pick_f rfl rfl) rfl rfl ?_
        refine RL.nil (RC.back ?_)
        refine RC.cond_f rfl ?_
        exact RC.skip (fun a ka => ⟨(o, d, ao, _, co), ⟨⟨by rw [if_neg (fun e => by rw [hd] at e; cases e.1)], by rw [hd]; rfl, by simp; omega⟩, o7, hb_10, d_o7_b_10, S⟩, ka.keep (keep_of (by repeat (first | exact trivial | refine And.intro rfl ?_)))⟩)
    obtain ⟨o1, d1, a1, m1, c1⟩ := y_
    obtain ⟨⟨ho1, hd1, hl1⟩, o7, hb_10, d7, S⟩ := hJ
    simp only [] at ho1 hd1 hl1 o7 d7
    obtain rfl := o7.sl.2
    rw [← ho1, ← hd1] at hst
    have szB := S.size
    refine RC.seq ?_
    refine RC.region rfl ?_
    refine RL.ev (.field0 fo29_0 rfl) rfl rfl ?_
    refine RL.ev (.load1 sh2 rfl (hb_10.cell rfl)) rfl rfl ?_
    refine RL.ev (.move rfl) rfl rfl ?_
    refine RL.ev (.bin rfl rfl rfl) rfl rfl ?_
    refine RL.nil (RC.back ?_)
    refine RC.cond_dec rfl (fun h7 => ?_) (fun h7 => ?_)
    ·
      have hne := h7
      refine RC.region rfl ?_
      refine RL.ev (.move rfl) rfl rfl ?_
      refine RL.ev (.loadR (x.cells) sh29 rfl hb_10.row rfl) rfl rfl ?_
      refine RL.buildSlice1 sl26 _ ze29 rfl rfl rfl rfl rfl rfl rfl (fun b_38 w_38 e_38 z_38 hb_38 s_38 => ?_)
      have ge_38 := S.le e_38
      have n_10__38 := hb_10.ne e_38
      have d_o7_b_38 := o7.neNew e_38
      have S := S.trans s_38
      have hb_10 := hb_10.sub s_38
      have o7 := o7.sub s_38
      have szB := Nat.le_trans szB s_38.size
      have sz_39 := S.size
      have ltb_10_39 := hb_10.lt
      have ltb_38_39 := hb_38.lt
      refine RL.append2 (base := w.heap.size) (rows := o1.map It.cells) (news := [_]) sl26 ze29 rfl rfl rfl rfl (.inl o7) (Has.slOne hb_38) rfl (by intro r hr; rw [List.mem_singleton] at hr; subst hr; rfl) rfl (by (try simp only [List.length_map, List.length_nil, List.length_append, List.length_cons]); omega) (by (try simp only [List.length_map, List.length_nil, List.length_append, List.length_cons]); omega) (by omega) rfl rfl (fun v_39 w_39 hc_39 ho_39 ag_39 ob_39 => ?_)
      have o39 := ho_39 (.inl (by simp))
      rw [show _ ++ [_] = ((o1 ++ [x]).map It.cells) from by rw [List.map_append]; rfl] at o39
      have d_o39_b_10 := obNe ob_39 d7 hb_10.lt
      have S := S.agrN ag_39 (fun k e => Nat.le_trans (by omega) e.2)
      have hb_10 := hb_10.step ag_39 (fun e => d7 _ e.1 rfl)
      have szB := Nat.le_trans szB ag_39.size
      obtain ⟨a_39, c_39, rfl, k_39⟩ := o39.form
      refine RL.ev (.assign rfl) rfl rfl ?_
      refine RL.nil (RC.back ?_)
      refine RC.region rfl ?_
      refine RL.ev (.as (.bin rfl rfl rfl) (wi64 (y := ((i + 1 : Nat) : Int)) (by omega) (by omega))) rfl rfl ?_
      refine RL.ev (.move rfl) rfl rfl ?_
      exact RL.nil (fun a ka => ⟨(i + 1, o1 ++ [x], d1, a_39, _, c_39), ⟨⟨by omega, by rw [hst, if_neg hne]⟩, o39, S⟩, by omega, ka.keep (keep_of (by repeat (first | exact trivial | refine And.intro rfl ?_)))⟩)
    ·
      have hne := Decidable.not_not.1 h7
      refine RC.skip (RC.back ?_)
      refine RC.region rfl ?_
      refine RL.ev (.as (.bin rfl rfl rfl) (wi64 (y := ((i + 1 : Nat) : Int)) (by omega) (by omega))) rfl rfl ?_
      refine RL.ev (.move rfl) rfl rfl ?_
      exact RL.nil (fun a ka => ⟨(i + 1, o1, d1, a1, _, c1), ⟨⟨by omega, by rw [hst, if_pos hne]⟩, o7, S⟩, by omega, ka.keep (keep_of (by repeat (first | exact trivial | refine And.intro rfl ?_)))⟩)
  ·
    obtain rfl : i = l.length := (by omega)
    refine RC.exit rfl (RC.back ?_)
    refine RC.seq ?_
    refine RC.seq ?_
    refine RC.region rfl ?_
    refine RL.ev (.move rfl) rfl rfl ?_
    refine RL.ev (.not rfl) rfl rfl ?_
    refine RL.nil (RC.back ?_)
    refine RC.cond rfl (fun h8 => ?_) (fun h8 => ?_)
    ·
      have hd : d = false := (by simpa using h8)
      have hres : putR l key v = o ++ [⟨key, v⟩] := (by rw [putR, hp, hd]; rfl)
      refine RC.region rfl ?_
      refine RL.ev (.move rfl) rfl rfl ?_
      refine RL.ev (.move rfl) rfl rfl ?_
      refine RL.ev (.move rfl) rfl rfl ?_
      refine RL.ev (.buildS ze29 pl29 rfl rfl) rfl rfl ?_
      refine RL.buildSlice1 sl26 _ ze29 rfl rfl rfl rfl rfl rfl rfl (fun b_47 w_47 e_47 z_47 hb_47 s_47 => ?_)
      have ge_47 := S.le e_47
      have d_o7_b_47 := o7.neNew e_47
      have S := S.trans s_47
      have o7 := o7.sub s_47
      have szB := Nat.le_trans szB s_47.size
      have sz_48 := S.size
      have ltb_47_48 := hb_47.lt
      refine RL.append2 (base := w.heap.size) (rows := o.map It.cells) (news := [_]) sl26 ze29 rfl rfl rfl rfl (.inl o7) (Has.slOne hb_47) rfl (by intro r hr; rw [List.mem_singleton] at hr; subst hr; rfl) rfl (by (try simp only [List.length_map, List.length_nil, List.length_append, List.length_cons]); omega) (by (try simp only [List.length_map, List.length_nil, List.length_append, List.length_cons]); omega) (by omega) rfl rfl (fun v_48 w_48 hc_48 ho_48 ag_48 ob_48 => ?_)
      have o48 := ho_48 (.inl (by simp))
      rw [show _ ++ [_] = ((o ++ [(⟨key, v⟩ : It)]).map It.cells) from by rw [List.map_append]; rfl] at o48
      have S := S.agrN ag_48 (fun k e => Nat.le_trans (by omega) e.2)
      have szB := Nat.le_trans szB ag_48.size
      obtain ⟨a_48, c_48, rfl, k_48⟩ := o48.form
      refine RL.ev (.assign rfl) rfl rfl ?_
      refine RL.nil (RC.back ?_)
      refine RC.seq ?_
      refine RC.region rfl ?_
      refine RL.ev (.move rfl) rfl rfl ?_
      refine RL.ev (.assign rfl) rfl rfl ?_
      refine RL.nil (RC.back ?_)
      refine RC.done (rs := [.tmp 6]) (vs := [_]) rfl rfl ⟨rfl, trivial⟩ ?_
      -- end 1
      rw [hres]
      exact ⟨_, _, rfl, o48, S⟩
    ·
      have hd : d = true := (by simpa using h8)
      have hres : putR l key v = o := (by rw [putR, hp, hd]; rfl)
      refine RC.skip (RC.back ?_)
      refine RC.seq ?_
      refine RC.region rfl ?_
      refine RL.ev (.move rfl) rfl rfl ?_
      refine RL.ev (.assign rfl) rfl rfl ?_
      refine RL.nil (RC.back ?_)
      refine RC.done (rs := [.tmp 6]) (vs := [_]) rfl rfl ⟨rfl, trivial⟩ ?_
      -- end 2
      rw [hres]
      exact ⟨_, _, rfl, o7, S⟩
theorem filter_take {p : It → Bool} {l : List It} {i : Nat} {x : It} (h : l[i]? = some x) : (l.take (i + 1)).filter p = (l.take i).filter p ++ (if p x then [x] else []) := by
  rw [List.take_add_one, h]
  simp only [Option.toList, List.filter_append, List.filter_cons, List.filter_nil]
end Go.Proofs.Ytbfjobmebkhblaa
set_option linter.unusedVariables false
set_option linter.unusedSimpArgs false
namespace Go.Proofs.Ytbfjobmebkhblaa
open Go Go.XL
/-- a key's digit at a level -/
def dig (key : Int) (lv : Nat) : Nat := hashOf key / 4 ^ lv % 4
theorem dig_lt (key : Int) (lv : Nat) : dig key lv < 4 := Nat.mod_lt _ (by decide)
def hN (kind g n v s : Int) (ks : List Int) : Node := ⟨kind, g, n, v, s, ks.getD 0 0, ks.getD 1 0, ks.getD 2 0, ks.getD 3 0, ks.getD 4 0, ks.getD 5 0, ks.getD 6 0, ks.getD 7 0, ks.getD 8 0, 0, 0⟩
/-- those of a digit at a level -/
def ofL (lv i : Nat) (l : List It) : List It := l.filter fun x => decide (dig x.k lv = i)
theorem ofL_mem {lv i : Nat} {l : List It} {x : It} : x ∈ ofL lv i l ↔ x ∈ l ∧ dig x.k lv = i := by unfold ofL; rw [List.mem_filter, decide_eq_true_iff]
/-- keys that are unlike -/
def Ap (l : List It) : Prop := l.Pairwise fun x y => ¬ x.k = y.k
theorem Ap.perm {l m : List It} (h : Ap l) (p : l.Perm m) : Ap m := (List.Perm.pairwise_iff (fun h e => h e.symm) p).1 h
theorem Ap.filter {l : List It} (h : Ap l) (p : It → Bool) : Ap (l.filter p) := List.Pairwise.filter p h
theorem Srt.ap {l : List It} (h : Srt l) : Ap l := List.Pairwise.imp (fun h e => by omega) h
theorem Ap.key {l : List It} (h : Ap l) {x y : It} (hx : x ∈ l) (hy : y ∈ l) (e : x.k = y.k) : x = y := by
  induction l with
  | nil => cases hx
  | cons z l ih =>
    obtain ⟨h1, h2⟩ := List.pairwise_cons.1 h
    rcases List.mem_cons.1 hx with e1 | e1 <;> rcases List.mem_cons.1 hy with e2 | e2
    · rw [e1, e2]
    · exact absurd (e1 ▸ e) (h1 y e2)
    · exact absurd (e2 ▸ e.symm) (h1 x e1)
    · exact ih h2 e1 e2
/-- the leaf of an item -/
def lfA (A : Ar) (r : Int) (x : It) : Prop := ∃ g, getA A r = some (hN 3 g x.k x.v 0 [])
/-- the node of keys of one hash -/
def Clash (A : Ar) (r : Int) (l : List It) : Prop := ∃ g ks m, List.Perm m l ∧ Srt m ∧ m.length ≤ 9 ∧ ks.length = m.length ∧ getA A r = some (hN 4 g 0 0 m.length ks) ∧ ∀ i x, m[i]? = some x → lfA A (ks.getD i 0) x
/-- a reference is the table of keys, so many levels above the last -/
def IsH (A : Ar) : Nat → Int → List It → Prop
  | 0, r, l => (l = [] ∧ r = 0) ∨ (∃ x, l = [x] ∧ lfA A r x) ∨ (2 ≤ l.length ∧ Clash A r l)
  | k + 1, r, l => (l = [] ∧ r = 0) ∨ (∃ x, l = [x] ∧ lfA A r x) ∨ (2 ≤ l.length ∧ ∃ g ks, ks.length = 4 ∧ getA A r = some (hN 2 g 0 0 l.length ks) ∧ ∀ i, i < 4 → IsH A k (ks.getD i 0) (ofL (9 - k) i l))
theorem isH_nil {A : Ar} {k : Nat} {r : Int} : IsH A k r [] ↔ r = 0 := by
  cases k with
  | zero =>
    constructor
    · rintro (⟨_, h⟩ | ⟨x, h, _⟩ | ⟨h, _⟩)
      · exact h
      · cases h
      · simp at h
    · exact fun h => .inl ⟨rfl, h⟩
  | succ k =>
    constructor
    · rintro (⟨_, h⟩ | ⟨x, h, _⟩ | ⟨h, _⟩)
      · exact h
      · cases h
      · simp at h
    · exact fun h => .inl ⟨rfl, h⟩
theorem isH_one {A : Ar} {k : Nat} {r : Int} {x : It} : IsH A k r [x] ↔ lfA A r x := by
  cases k with
  | zero =>
    constructor
    · rintro (⟨h, _⟩ | ⟨y, h, h2⟩ | ⟨h, _⟩)
      · cases h
      · cases h; exact h2
      · simp at h
    · exact fun h => .inr (.inl ⟨x, rfl, h⟩)
  | succ k =>
    constructor
    · rintro (⟨h, _⟩ | ⟨y, h, h2⟩ | ⟨h, _⟩)
      · cases h
      · cases h; exact h2
      · simp at h
    · exact fun h => .inr (.inl ⟨x, rfl, h⟩)
theorem isH_trie {A : Ar} {k : Nat} {r : Int} {l : List It} (hl : 2 ≤ l.length) : IsH A (k + 1) r l ↔ ∃ g ks, ks.length = 4 ∧ getA A r = some (hN 2 g 0 0 l.length ks) ∧ ∀ i, i < 4 → IsH A k (ks.getD i 0) (ofL (9 - k) i l) := by
  constructor
  · rintro (⟨h, _⟩ | ⟨y, h, h2⟩ | ⟨h, h2⟩)
    · rw [h] at hl; simp at hl
    · rw [h] at hl; simp at hl
    · exact h2
  · exact fun h => .inr (.inr ⟨hl, h⟩)
theorem isH_clash {A : Ar} {r : Int} {l : List It} (hl : 2 ≤ l.length) : IsH A 0 r l ↔ Clash A r l := by
  constructor
  · rintro (⟨h, _⟩ | ⟨y, h, h2⟩ | ⟨h, h2⟩)
    · rw [h] at hl; simp at hl
    · rw [h] at hl; simp at hl
    · exact h2
  · exact fun h => .inr (.inr ⟨hl, h⟩)
theorem row_cases (l : List It) : l = [] ∨ (∃ x, l = [x]) ∨ 2 ≤ l.length := by
  rcases l with _ | ⟨x, _ | ⟨y, l⟩⟩
  · exact .inl rfl
  · exact .inr (.inl ⟨x, rfl⟩)
  · exact .inr (.inr (by simp))
theorem Clash.perm {A : Ar} {r : Int} {l m : List It} (h : Clash A r l) (p : l.Perm m) : Clash A r m := by
  obtain ⟨g, ks, q, h1, h2⟩ := h
  exact ⟨g, ks, q, h1.trans p, h2⟩
theorem IsH.perm {A : Ar} : ∀ {k : Nat} {r : Int} {l m : List It}, IsH A k r l → l.Perm m → IsH A k r m
  | k, r, l, m, h, p => by
    rcases row_cases l with rfl | ⟨x, rfl⟩ | hl
    · rw [List.Perm.nil_eq p.symm.symm] at h; exact h
    · rw [← List.Perm.singleton_eq p]; exact h
    · have hm : 2 ≤ m.length := by rw [← p.length_eq]; exact hl
      cases k with
      | zero => exact (isH_clash hm).2 (((isH_clash hl).1 h).perm p)
      | succ k =>
        obtain ⟨g, ks, h1, h2, h3⟩ := (isH_trie hl).1 h
        exact (isH_trie hm).2 ⟨g, ks, h1, by rw [← p.length_eq]; exact h2, fun i hi => IsH.perm (h3 i hi) (p.filter _)⟩
theorem lfA.ext {A B : Ar} {r : Int} {x : It} (h : lfA A r x) (e : Ext A B) : lfA B r x := by
  obtain ⟨g, h⟩ := h; exact ⟨g, e.get h⟩
theorem IsH.ext {A B : Ar} (e : Ext A B) : ∀ {k : Nat} {r : Int} {l : List It}, IsH A k r l → IsH B k r l
  | k, r, l, h => by
    rcases row_cases l with rfl | ⟨x, rfl⟩ | hl
    · exact isH_nil.2 (isH_nil.1 h)
    · exact isH_one.2 ((isH_one.1 h).ext e)
    · cases k with
      | zero =>
        obtain ⟨g, ks, q, h1, h2, h3, h4, h5, h6⟩ := (isH_clash hl).1 h
        exact (isH_clash hl).2 ⟨g, ks, q, h1, h2, h3, h4, e.get h5, fun i x hx => (h6 i x hx).ext e⟩
      | succ k =>
        obtain ⟨g, ks, h1, h2, h3⟩ := (isH_trie hl).1 h
        exact (isH_trie hl).2 ⟨g, ks, h1, e.get h2, fun i hi => IsH.ext e (h3 i hi)⟩
theorem getA_right {A : Ar} {r : Int} {x : Node} (h : getA A r = some x) : rightR r = true := by
  have h2 := (getA_rng h).1
  refine Classical.byContradiction fun e => ?_
  rw [placeR_not (fun hn : nodeR r => e hn.2)] at h2
  omega
theorem getA_z (A : Ar) : getA A 0 = none := getA_neg (.inl (by decide))
theorem getA_nz {A : Ar} {r : Int} {x : Node} (h : getA A r = some x) : ¬ r = 0 := fun e => by rw [e, getA_z] at h; cases h
/-- what a node tells of its keys -/
def szH (A : Ar) (r : Int) : Int := if (getN A r).kind = 3 then 1 else (getN A r).s
theorem szH_z (A : Ar) : szH A 0 = 0 := by unfold szH getN; rw [getA_z]; rfl
theorem lfA.right {A : Ar} {r : Int} {x : It} (h : lfA A r x) : rightR r = true := by obtain ⟨g, h⟩ := h; exact getA_right h
theorem lfA.nz {A : Ar} {r : Int} {x : It} (h : lfA A r x) : ¬ r = 0 := by obtain ⟨g, h⟩ := h; exact getA_nz h
theorem lfA.getN {A : Ar} {r : Int} {x : It} (h : lfA A r x) : ∃ g, getN A r = hN 3 g x.k x.v 0 [] := by obtain ⟨g, h⟩ := h; exact ⟨g, getN_yes h⟩
theorem lfA.size {A : Ar} {r : Int} {x : It} (h : lfA A r x) : szH A r = 1 := by obtain ⟨g, h⟩ := h.getN; unfold szH; rw [h]; rfl
theorem IsH.node {A : Ar} {k : Nat} {r : Int} {l : List It} (hl : 2 ≤ l.length) (h : IsH A k r l) : ∃ kd g ks, (kd = 2 ∧ k ≠ 0 ∨ kd = 4 ∧ k = 0) ∧ getA A r = some (hN kd g 0 0 l.length ks) := by
  cases k with
  | zero =>
    obtain ⟨g, ks, q, h1, h2, h3, h4, h5, h6⟩ := (isH_clash hl).1 h
    exact ⟨4, g, ks, .inr ⟨rfl, rfl⟩, by rw [← h1.length_eq]; exact h5⟩
  | succ k =>
    obtain ⟨g, ks, h1, h2, h3⟩ := (isH_trie hl).1 h
    exact ⟨2, g, ks, .inl ⟨rfl, by omega⟩, h2⟩
theorem IsH.right {A : Ar} {k : Nat} {r : Int} {l : List It} (h : IsH A k r l) : rightR r = true := by
  rcases row_cases l with rfl | ⟨x, rfl⟩ | hl
  · rw [isH_nil.1 h]; exact (rightR_iff 0).2 (.inl rfl)
  · exact (isH_one.1 h).right
  · obtain ⟨_, _, _, _, h⟩ := h.node hl; exact getA_right h
theorem IsH.size {A : Ar} {k : Nat} {r : Int} {l : List It} (h : IsH A k r l) : szH A r = l.length := by
  rcases row_cases l with rfl | ⟨x, rfl⟩ | hl
  · rw [isH_nil.1 h]; exact szH_z A
  · exact (isH_one.1 h).size
  · obtain ⟨kd, g, ks, hk, h⟩ := h.node hl
    unfold szH
    rw [getN_yes h]
    rcases hk with ⟨rfl, _⟩ | ⟨rfl, _⟩ <;> rfl
theorem IsH.zero {A : Ar} {k : Nat} {r : Int} {l : List It} (h : IsH A k r l) : r = 0 ↔ l = [] := by
  constructor
  · intro e
    have h2 := h.size
    rw [e, szH_z] at h2
    exact List.eq_nil_of_length_eq_zero (by omega)
  · rintro rfl; exact isH_nil.1 h
theorem part_perm (lv : Nat) : ∀ l : List It, (ofL lv 0 l ++ (ofL lv 1 l ++ (ofL lv 2 l ++ ofL lv 3 l))).Perm l
  | [] => List.Perm.refl _
  | x :: l => by
    have ih := part_perm lv l
    have hd := dig_lt x.k lv
    have e : ∀ i, ofL lv i (x :: l) = if dig x.k lv = i then x :: ofL lv i l else ofL lv i l := fun i => by
      unfold ofL; rw [List.filter_cons]; by_cases q : dig x.k lv = i
      · rw [if_pos (by simpa using q), if_pos q]
      · rw [if_neg (by simpa using q), if_neg q]
    rcases (show dig x.k lv = 0 ∨ dig x.k lv = 1 ∨ dig x.k lv = 2 ∨ dig x.k lv = 3 by omega) with q | q | q | q <;> rw [e, e, e, e, q] <;> simp only [if_true, Nat.zero_ne_one, if_false, show (0 : Nat) ≠ 2 by decide, show (0 : Nat) ≠ 3 by decide, show (1 : Nat) ≠ 0 by decide, show (1 : Nat) ≠ 2 by decide, show (1 : Nat) ≠ 3 by decide, show (2 : Nat) ≠ 0 by decide, show (2 : Nat) ≠ 1 by decide, show (2 : Nat) ≠ 3 by decide, show (3 : Nat) ≠ 0 by decide, show (3 : Nat) ≠ 1 by decide, show (3 : Nat) ≠ 2 by decide]
    · exact List.Perm.cons x ih
    · exact (List.perm_middle).trans (List.Perm.cons x ih)
    · rw [← List.append_assoc]
      refine (List.perm_middle).trans (List.Perm.cons x ?_)
      rw [List.append_assoc]; exact ih
    · rw [← List.append_assoc, ← List.append_assoc]
      refine (List.perm_middle).trans (List.Perm.cons x ?_)
      rw [List.append_assoc, List.append_assoc]; exact ih
theorem part_len (lv : Nat) (l : List It) : (ofL lv 0 l).length + (ofL lv 1 l).length + (ofL lv 2 l).length + (ofL lv 3 l).length = l.length := by
  have := (part_perm lv l).length_eq
  simp only [List.length_append] at this
  omega
/-- the hashes' low digits are alike -/
def Fam (lv d : Nat) (l : List It) : Prop := ∀ x ∈ l, hashOf x.k % 4 ^ lv = d
theorem fam_0 (l : List It) : Fam 0 0 l := fun x _ => by rw [Nat.pow_zero, Nat.mod_one]
theorem hash_succ (key : Int) (lv : Nat) : hashOf key % 4 ^ (lv + 1) = hashOf key % 4 ^ lv + 4 ^ lv * dig key lv := by
  rw [Nat.pow_succ]; exact Nat.mod_mul
theorem Fam.lt {lv d : Nat} {l : List It} (h : Fam lv d l) {x : It} (hx : x ∈ l) : d < 4 ^ lv := by rw [← h x hx]; exact Nat.mod_lt _ (Nat.pow_pos (by decide))
theorem Fam.of {lv d i : Nat} {l : List It} (h : Fam lv d l) : Fam (lv + 1) (d + 4 ^ lv * i) (ofL lv i l) := by
  intro x hx
  obtain ⟨h1, h2⟩ := ofL_mem.1 hx
  rw [hash_succ, h x h1, h2]
theorem Fam.back {lv d i : Nat} {l : List It} (hd : d < 4 ^ lv) (hi : i < 4) (h : Fam (lv + 1) (d + 4 ^ lv * i) l) : Fam lv d l ∧ ∀ x ∈ l, dig x.k lv = i := by
  have hp : 0 < 4 ^ lv := Nat.pow_pos (by decide)
  have key : ∀ x ∈ l, hashOf x.k % 4 ^ lv = d ∧ dig x.k lv = i := fun x hx => by
    have h1 := h x hx
    rw [hash_succ] at h1
    have h2 : hashOf x.k % 4 ^ lv < 4 ^ lv := Nat.mod_lt _ hp
    have e1 : (hashOf x.k % 4 ^ lv + 4 ^ lv * dig x.k lv) / 4 ^ lv = dig x.k lv := by rw [Nat.add_mul_div_left _ _ hp, Nat.div_eq_of_lt h2, Nat.zero_add]
    have e2 : (d + 4 ^ lv * i) / 4 ^ lv = i := by rw [Nat.add_mul_div_left _ _ hp, Nat.div_eq_of_lt hd, Nat.zero_add]
    rw [h1, e2] at e1
    rw [← e1] at h1
    exact ⟨by omega, e1.symm⟩
  exact ⟨fun x hx => (key x hx).1, fun x hx => (key x hx).2⟩
theorem Fam.nil (lv d : Nat) : Fam lv d [] := fun x hx => by cases hx
theorem Fam.filter {lv d : Nat} {l : List It} (h : Fam lv d l) (p : It → Bool) : Fam lv d (l.filter p) := fun x hx => h x (List.mem_filter.1 hx).1
theorem Fam.perm {lv d : Nat} {l m : List It} (h : Fam lv d l) (p : m.Perm l) : Fam lv d m := fun x hx => h x (p.mem_iff.1 hx)
end Go.Proofs.Ytbfjobmebkhblaa
set_option linter.unusedVariables false
set_option linter.unusedSimpArgs false
namespace Go.Proofs.Ytbfjobmebkhblaa
open Go Go.XL
/-- a loop's record lies in the heap -/
def Lp (l : Nat) (r : Loop) (w : World) : Prop := w.heap[l]? = some (.loop r)
theorem Lp.lt {l r w} (h : Lp l r w) : l < w.heap.size := by
  unfold Lp at h
  rcases Nat.lt_or_ge l w.heap.size with q | q
  · exact q
  · rw [Array.getElem?_eq_none q] at h; cases h
theorem Lp.step {N : Nat → Prop} {l r w w'} (h : Lp l r w) (k : Agr N w w') (hn : ¬ N l) : Lp l r w' := (k.block l h.lt hn).trans h
theorem Lp.sub {l r w w'} (h : Lp l r w) (s : Sub w w') : Lp l r w' := (s.block l h.lt).trans h
theorem Lp.upd {l r w w' b} (h : Lp l r w) (a : Agr (· = b) w w') (hn : l ≠ b) : Lp l r w' := h.step a hn
theorem Lp.ne {l r w b} (h : Lp l r w) (hb : b = w.heap.size) : l ≠ b := fun e => by have := h.lt; omega
theorem Lp.put {l r r' w} (h : Lp l r w) : Lp l r' (w.putObj l (.loop r')) := World.putObj_heap_same h.lt
theorem agr_put {l : Nat} {o : Obj} {w : World} : Agr (· = l) w (w.putObj l o) := ⟨rfl, rfl, rfl, by simp, fun k _ hn => World.putObj_heap_other hn⟩

section
variable {P : Program} {n : Cx} {F : (List (Nat × Value))} {w : World} {p : Post} {ops : Array Oper} {rest : List Oper} {d : Option Tmp} {t : TypeId} {pos : String} {af : Array Edge} {g : Option (Nat × Bool)}
/-- what a call of yield comes to -/
def FY (P : Program) (l : Nat) (args : List Value) (w : World) (R : Value → World → Prop) : Prop :=
  ∃ r : Loop, Lp l r w ∧ args.length = r.params.size ∧ RoundIn Fence.wide 0 P l r.fn ((r.params.zip args.toArray).foldl (fun tmps (t, a) => tmps.setIfInBounds t a) r.tmps) r.assign r.body w (fun e w' => ∃ v, e = .returned v ∧ R v w')
theorem FY.mono {l : Nat} {args : List Value} {R R' : Value → World → Prop} (h : FY P l args w R) (hr : ∀ v w', R v w' → R' v w') : FY P l args w R' := by
  obtain ⟨r, h1, h2, h3⟩ := h
  exact ⟨r, h1, h2, h3.mono fun e w' ⟨v, e1, e2⟩ => ⟨v, e1, hr v w' e2⟩⟩
theorem RL.yield {l : Nat} {y : Operand} {xs : List Operand} {vs : List Value} {ts : Array TypeId} (hy : XL.ev F y = some (.func (.yield l) #[] #[])) (hx : evs F xs = some vs) {R : Value → World → Prop} (hc : FY P l vs w R) (hg : gsat ops F g = some true) (hd : inB d n = true)
    (h : ∀ v w', R v w' → RL P n ops rest (upd F d v) w' p) (hq : n.round = some none := by rfl) : RL P n ops (⟨d, .call ⟨.value y, xs.toArray, ts⟩, t, pos, af, g⟩ :: rest) F w p := by
  intro a k
  obtain ⟨r, h1, h2, h3⟩ := hc
  have he : (execOp a.eval ⟨d, .call ⟨.value y, xs.toArray, ts⟩, t, pos, af, g⟩).run P w = .ok (.round l r.fn ((r.params.zip vs.toArray).foldl (fun tmps (t, a) => tmps.setIfInBounds t a) r.tmps) r.assign r.body) w := by
    have hρ := k.agrees
    simp only [execOp, resolve, hρ y _ hy, Deferred.ofValue, evs_arr hρ hx, bind, Sem.bind, pure, invoke, Array.append_empty, Array.empty_append]
    exact run_yield h1 (by simpa using h2)
  rw [lwp_some hq]
  simp only [wpListIn]
  rw [wanted_of k hg, if_pos rfl]
  refine ⟨fun _ _ => trivial, ?_⟩
  rw [Oper.semAt_eq _ _ _ (not_defer he (fun _ e => by cases e)), he]
  refine ⟨fun e => (by cases e), ?_⟩
  refine RoundIn.mono h3 ?_
  rintro e w' ⟨v, rfl, hR⟩
  have := h v w' hR _ (k.upd d v hd)
  rwa [lwp_some hq] at this

/-- a function whose body holds ranges, or calls yield -/
theorem FC.introY {f : FuncId} {fn : Func} {c : Code} {args : List Value} {R : Value → World → Prop} {m : Nat} (hf : P.funcs[f]? = some fn) (hb : fn.body = some c) (hn : fn.ntmps = m) (ha : Nat.ble args.length m = true)
    (h : RC P ⟨m, some none, []⟩ c (env0 0 args) w (Post.fn P fn R)) : FC P f args w R := by
  have ha' : args.length ≤ m := by simpa using ha
  have key := h { tmps := args.toArray ++ Array.replicate (fn.ntmps - args.toArray.size) undef, defers := [] } ⟨by simp [hn]; omega, rfl, ?_⟩
  · rw [cwp_some rfl] at key
    refine callsIn_wide.1 (callsIn_of_wp (F := Fence.wide) (n := 0) hf hb trivial (wpIn_mono key ?_))
    intro e a w' hq
    cases e <;> simp only [Post.q, Post.fn, lookX] at hq <;> first | exact hq.elim | skip
    · obtain ⟨h1, v, h2, h3⟩ := hq; exact ⟨h1, v, h2, v, rfl, h3⟩
    · obtain ⟨h1, v, h2, h3⟩ := hq; exact ⟨h1, v, h2, v, rfl, h3⟩
  · intro t v ht
    obtain ⟨_, h2⟩ := look_env0 args 0 t v ht
    simp only [Nat.sub_zero] at h2
    have hlt : t < args.length := by
      rcases Nat.lt_or_ge t args.length with g | g
      · exact g
      · rw [List.getElem?_eq_none g] at h2; cases h2
    simp only []
    rw [Array.getElem?_append_left (by simpa using hlt)]
    simpa using h2
/-- the mark of a range's block -/
def markD (D : Nat) : Deferred := { target := .collected D, args := #[] }
/-- behind a range: the block is shut, and that turns it -/
def Post.fnM (P : Program) (fn : Func) (R : Value → World → Prop) : Post :=
  let r : Act → World → Prop := fun a w => (a.defers = [] ∨ ∃ D, a.defers = [markD D] ∧ w.heap[D]? = some (.deferred (some []))) ∧ ∀ w', (w' = w ∧ a.defers = [] ∨ ∃ D, a.defers = [markD D] ∧ w' = w.putObj D (.deferred none)) → ∃ v, (results fn a.tmps).run P w' = .ok v w' ∧ R v w'
  ⟨r, [], r⟩
theorem FC.introM {f : FuncId} {fn : Func} {c : Code} {args : List Value} {R : Value → World → Prop} {m : Nat} (hf : P.funcs[f]? = some fn) (hb : fn.body = some c) (hn : fn.ntmps = m) (ha : Nat.ble args.length m = true)
    (h : RC P ⟨m, some none, []⟩ c (env0 0 args) w (Post.fnM P fn R)) : FC P f args w R := by
  have ha' : args.length ≤ m := by simpa using ha
  have key := h { tmps := args.toArray ++ Array.replicate (fn.ntmps - args.toArray.size) undef, defers := [] } ⟨by simp [hn]; omega, rfl, ?_⟩
  · rw [cwp_some rfl] at key
    refine callsIn_wide.1 (callsIn_of_wp_marks (F := Fence.wide) (n := 0) hf hb trivial (wpIn_mono key ?_))
    have leave : ∀ (a : Act) (w' : World), (Post.fnM P fn R).ret a w' → LeavesInM Fence.wide 0 P fn a.tmps (fun e w' => ∃ v, e = .returned v ∧ R v w') a.defers .returning w' := by
      rintro a w' ⟨h1, h2⟩
      rcases h1 with h1 | ⟨D, h1, hD⟩
      · obtain ⟨v, h3, h4⟩ := h2 w' (.inl ⟨rfl, h1⟩)
        rw [h1]
        exact ⟨v, h3, v, rfl, h4⟩
      · obtain ⟨v, h3, h4⟩ := h2 _ (.inr ⟨D, h1, rfl⟩)
        rw [h1]
        exact ⟨fun e => (by cases e), .inl ⟨D, _, rfl, run_takeDeferred hD, v, h3, v, rfl, h4⟩⟩
    intro e a w' hq
    cases e <;> simp only [Post.q, Post.fnM, lookX] at hq <;> first | exact hq.elim | skip
    · exact leave a w' hq
    · exact leave a w' hq
  · intro t v ht
    obtain ⟨_, h2⟩ := look_env0 args 0 t v ht
    simp only [Nat.sub_zero] at h2
    have hlt : t < args.length := by
      rcases Nat.lt_or_ge t args.length with g | g
      · exact g
      · rw [List.getElem?_eq_none g] at h2; cases h2
    simp only []
    rw [Array.getElem?_append_left (by simpa using hlt)]
    simpa using h2

def endR (l : Nat) (j : Option Code) (R : Value → World → Prop) (a : Act) (w : World) : Prop := ∃ r, Lp l r w ∧ R (.bool j.isNone) (w.putObj l (.loop { r with state := if j.isNone then .ready else .done, pending := j }))
def roundP (l : Nat) (R : Value → World → Prop) (ids : List Nat) : Post := ⟨endR l none R, ids.map fun id => (id, endR l (some (.exit id)) R), endR l (some .ret) R⟩
def assignP (P : Program) (l : Nat) (r : Loop) (R : Value → World → Prop) (m : Nat) (ids : List Nat) : Post :=
  ⟨fun a1 w1 => Lp l r w1 ∧ ∀ w2, Agr (· = l) w1 w2 → w2.heap.size = w1.heap.size → Lp l { r with state := .busy } w2 → cwp ⟨m, some (some l), []⟩ P r.body (roundP l R ids).q a1 w2, [], fun _ _ => False⟩
theorem lookX_ids {l : Nat} {R : Value → World → Prop} {i : Nat} {K : Act → World → Prop} : ∀ {ids : List Nat}, lookX (ids.map fun id => (id, endR l (some (.exit id)) R)) i = some K → K = endR l (some (.exit i)) R
  | [], h => by cases h
  | j :: ids, h => by
    simp only [List.map_cons, lookX_cons] at h
    split at h
    · rename_i e; subst e; exact (Option.some.inj h).symm
    · exact lookX_ids h
theorem FY.intro {l m : Nat} {r : Loop} {args : List Value} {R : Value → World → Prop} {F : List (Nat × Value)} (ids : List Nat) (hl : Lp l r w) (hs : r.state = .ready) (hz : args.length = r.params.size)
    (hk : Knows ⟨m, some (some l), []⟩ F { tmps := (r.params.zip args.toArray).foldl (fun tmps (t, a) => tmps.setIfInBounds t a) r.tmps, defers := [] })
    (h : RC P ⟨m, some (some l), []⟩ r.assign F w (assignP P l r R m ids)) : FY P l args w R := by
  refine ⟨r, hl, hz, roundIn_of_wpIn trivial ?_⟩
  have key := h _ hk
  rw [cwp_some rfl] at key
  refine wpIn_mono key fun e a1 w1 hq => ?_
  cases e with
  | normal =>
    obtain ⟨h1, h2⟩ := hq
    refine ⟨_, run_beginRound h1 hs, ?_⟩
    have h3 := h2 _ agr_put (by simp) h1.put
    rw [cwp_some rfl] at h3
    refine wpIn_mono h3 fun e a w hq => ?_
    cases e with
    | normal =>
      obtain ⟨r', h4, h5⟩ := hq
      exact ⟨_, _, run_endRound none h4, _, rfl, h5⟩
    | ret =>
      obtain ⟨r', h4, h5⟩ := hq
      exact ⟨_, _, run_endRound (some .ret) h4, _, rfl, h5⟩
    | exit i =>
      simp only [Post.q] at hq
      split at hq
      · rename_i K hK
        rw [lookX_ids hK] at hq
        obtain ⟨r', h4, h5⟩ := hq
        exact ⟨_, _, run_endRound (some (.exit i)) h4, _, rfl, h5⟩
      · exact hq.elim
    | goto _ => exact hq.elim
    | panic _ => exact hq.elim
    | outgrown => exact hq.elim
  | exit i =>
    simp only [Post.q, assignP, lookX] at hq
  | ret => exact hq.elim
  | goto _ => exact hq.elim
  | panic _ => exact hq.elim
  | outgrown => exact hq.elim
/-- the assignment is done, the round begins -/
theorem RC.begin {l m : Nat} {r : Loop} {R : Value → World → Prop} {ids : List Nat} {F : List (Nat × Value)} (hl : Lp l r w) (h : ∀ w2, Agr (· = l) w w2 → w2.heap.size = w.heap.size → Lp l { r with state := .busy } w2 → RC P ⟨m, some (some l), []⟩ r.body F w2 (roundP l R ids)) :
    ∀ a, Knows ⟨m, some (some l), []⟩ F a → (assignP P l r R m ids).nrm a w := fun a ka => ⟨hl, fun w2 h1 h2 h3 => h w2 h1 h2 h3 a ka⟩
/-- the round ends -/
theorem RC.endr {n : Cx} {l : Nat} {r : Loop} {R : Value → World → Prop} {j : Option Code} {F : List (Nat × Value)} (hl : Lp l r w) (h : ∀ w', Agr (· = l) w w' → w'.heap.size = w.heap.size → Lp l { r with state := if j.isNone then .ready else .done, pending := j } w' → R (.bool j.isNone) w') :
    ∀ a, Knows n F a → endR l j R a w := fun a ka => ⟨r, hl, h _ agr_put (by simp) hl.put⟩

attribute [irreducible] endR
def Df (D : Nat) (w : World) : Prop := w.heap[D]? = some (.deferred (some []))
theorem RC.range {id m gf : Nat} {g : Operand} {ps : Array Tmp} {assign body : Code} {cs : List Value} {F : List (Nat × Value)} (hg : XL.ev F g = some (.func (.func gf) #[] cs.toArray)) (hf : calleeOK P gf = true)
    (h : ∀ (r : Loop) (W1 : World), r.state = .ready → r.pending = none → r.params = ps → r.assign = assign → r.body = body → Knows ⟨m, some (some (w.heap.size + 1)), []⟩ F { tmps := r.tmps, defers := [] } → Sub w W1 → W1.heap.size = w.heap.size + 2 → Lp (w.heap.size + 1) r W1 → Df w.heap.size W1 →
      FC P gf (.func (.yield (w.heap.size + 1)) #[] #[] :: cs) W1 (fun _ W2 => ∃ r2, Lp (w.heap.size + 1) r2 W2 ∧ r2.state ≠ .busy ∧ ∀ W3, Agr (· = w.heap.size + 1) W2 W3 → W3.heap.size = W2.heap.size →
        ((r2.pending = none ∨ r2.pending = some (.exit id)) ∧ (∀ a, Knows ⟨m, some none, [markD w.heap.size]⟩ F a → p.nrm a W3) ∨ r2.pending = some .ret ∧ ∀ a, Knows ⟨m, some none, [markD w.heap.size]⟩ F a → p.ret a W3))) :
    RC P ⟨m, some none, []⟩ (.block id (.rangeFunc g ps assign body)) F w p := by
  intro a k
  rw [cwp_some rfl]
  refine wpIn_block (wpIn_rangeFunc ?_)
  intro fn _
  obtain ⟨r, hr⟩ : ∃ r : Loop, r = { state := .ready, pending := none, fn, tmps := a.tmps, params := ps, assign, body, defers := w.heap.size } := ⟨_, rfl⟩
  obtain ⟨W1, hW1⟩ : ∃ W1, W1 = (w.alloc (.deferred (some []))).alloc (.loop r) := ⟨_, rfl⟩
  have hL1 : Lp (w.heap.size + 1) r W1 := by
    have := World.alloc_heap_new (w.alloc (.deferred (some []))) (.loop r)
    rw [World.size_alloc] at this
    rw [hW1]; exact this
  have hD1 : Df w.heap.size W1 := by
    rw [hW1]
    have := World.alloc_heap_new w (.deferred (some []))
    unfold Df
    rw [heap_alloc_old' _ _ (by simp)]
    exact this
  have hS1 : Sub w W1 := by
    rw [hW1]
    exact ⟨rfl, rfl, rfl, by simp; omega, fun k hk => by rw [heap_alloc_old' _ _ (by simp; omega), heap_alloc_old' _ _ hk]⟩
  have hz1 : W1.heap.size = w.heap.size + 2 := by rw [hW1]; simp
  have hga : a.eval g = .func (.func gf) #[] cs.toArray := k.agrees _ _ hg
  refine ⟨w.heap.size + 1, [markD w.heap.size], W1, { target := .fn (.func gf) cs.toArray, args := #[.func (.yield (w.heap.size + 1)) #[] #[]] }, W1, gf, #[.func (.yield (w.heap.size + 1)) #[] #[]] ++ cs.toArray, W1, ?_, ?_, fun _ _ => trivial, ?_, fun e => (by cases e), ?_⟩
  · rw [hW1, hr]; exact run_enterLoop_outer _ _ _ _ _
  · simp only [resolve, hga]
    simp [go_sem]
  · simp only [invoke]
    exact run_callFunc hf
  · have hk1 : Knows ⟨m, some (some (w.heap.size + 1)), []⟩ F { tmps := r.tmps, defers := [] } := by
      rw [hr]; exact ⟨k.size, rfl, k.slot⟩
    have hc := h r W1 (by rw [hr]) (by rw [hr]) (by rw [hr]) (by rw [hr]) (by rw [hr]) hk1 hS1 hz1 hL1 hD1
    unfold FC at hc
    rw [List.toArray_cons] at hc
    refine CallsIn.mono (callsIn_wide.2 hc) ?_
    rintro e W2 ⟨v, rfl, r2, h1, h2, h3⟩
    refine ⟨_, _, run_endLoop h1 h2, ?_⟩
    have h4 := h3 (W2.putObj (w.heap.size + 1) (.loop { r2 with state := .exhausted })) agr_put (by simp)
    generalize W2.putObj (w.heap.size + 1) (.loop { r2 with state := .exhausted }) = W3 at h4 ⊢
    have hk3 : Knows ⟨m, some none, [markD w.heap.size]⟩ F { a with defers := [markD w.heap.size] ++ a.defers } := ⟨k.size, by simp [k.defers], k.slot⟩
    rcases h4 with ⟨h4 | h4, h5⟩ | ⟨h4, h5⟩
    · rw [h4]
      exact h5 _ hk3
    · rw [h4]
      refine wpIn_exit ?_
      simp only [Exit.inBlock, if_pos]
      exact h5 _ hk3
    · rw [h4]
      exact wpIn_ret (h5 _ hk3)
theorem RC.backM {m : Nat} {mk : List Deferred} {y : Code} {q : Post} {F : List (Nat × Value)} (h : RC P ⟨m, some none, mk⟩ y F w q) : ∀ a, Knows ⟨m, some none, mk⟩ F a → (fun a w => cwp ⟨m, some none, []⟩ P y q.q a w) a w := h
/-- how the record stands: b = the loop goes on -/
def recB (r : Loop) (id : Nat) (b : Bool) : Loop := { r with state := if b then .ready else .done, pending := if b then none else some (.exit id) }
theorem recB_nb {r : Loop} {id : Nat} {b : Bool} : (recB r id b).state ≠ .busy := by cases b <;> simp [recB]
theorem recB_pe {r : Loop} {id : Nat} {b : Bool} : (recB r id b).pending = none ∨ (recB r id b).pending = some (.exit id) := by cases b <;> simp [recB]
theorem recB_0 {r : Loop} {id : Nat} (h1 : r.state = .ready) (h2 : r.pending = none) : r = recB r id true := by cases r; simp_all [recB]
theorem knows1 {n : Cx} {F : List (Nat × Value)} {tmps : Array Value} {ps : Array Tmp} {t : Nat} {v : Value} (hps : ps = #[t]) (h : Knows n F { tmps := tmps, defers := [] }) (hd : inB (some t) n = true) :
    Knows n (upd F (some t) v) { tmps := (ps.zip [v].toArray).foldl (fun tmps (t, a) => tmps.setIfInBounds t a) tmps, defers := [] } := by
  subst hps
  have := h.upd (some t) v hd
  simpa [Act.put] using this
theorem RC.doneM0 {fn : Func} {R : Value → World → Prop} {rs : List ResultVar} {vs : List Value} (hrs : fn.results = rs.toArray) (hp : p.ret = (Post.fnM P fn R).ret) (hv : resVs P F w rs vs) (hR : R (tup vs) w) (hM : n.marks = [] := by rfl) : RC P n .ret F w p :=
  RC.ret fun a k => by
    rw [hp]
    refine ⟨.inl (k.defers.trans hM), ?_⟩
    rintro w' (⟨rfl, _⟩ | ⟨D, h, _⟩)
    · exact ⟨_, run_results k hrs hv, hR⟩
    · rw [k.defers.trans hM] at h; cases h
theorem RC.doneM {fn : Func} {D : Nat} {R : Value → World → Prop} {rs : List ResultVar} {vs : List Value} (hrs : fn.results = rs.toArray) (hp : p.ret = (Post.fnM P fn R).ret) (hv : ∀ w, resVs P F w rs vs) (hD : Df D w) (hR : ∀ w', Agr (· = D) w w' → w'.heap.size = w.heap.size → R (tup vs) w') (hM : n.marks = [markD D] := by rfl) : RC P n .ret F w p :=
  RC.ret fun a k => by
    rw [hp]
    refine ⟨.inr ⟨D, k.defers.trans hM, hD⟩, ?_⟩
    rintro w' (⟨_, h⟩ | ⟨D', h, e⟩)
    · rw [k.defers.trans hM] at h; cases h
    · rw [k.defers.trans hM] at h
      obtain rfl : D = D' := by
        have := (List.cons.inj h).1
        simp only [markD, Deferred.mk.injEq, Target.collected.injEq] at this
        exact this.1
      subst e
      exact ⟨_, run_results k hrs (hv _), hR _ agr_put (by simp)⟩
theorem Df.lt {D w} (h : Df D w) : D < w.heap.size := by
  unfold Df at h
  rcases Nat.lt_or_ge D w.heap.size with q | q
  · exact q
  · rw [Array.getElem?_eq_none q] at h; cases h
theorem Df.step {N : Nat → Prop} {D w w'} (h : Df D w) (k : Agr N w w') (hn : ¬ N D) : Df D w' := (k.block D h.lt hn).trans h
theorem Df.sub {D w w'} (h : Df D w) (s : Sub w w') : Df D w' := (s.block D h.lt).trans h
theorem Df.upd {D w w' b} (h : Df D w) (a : Agr (· = b) w w') (hn : D ≠ b) : Df D w' := h.step a hn
theorem Df.ne {D w b} (h : Df D w) (hb : b = w.heap.size) : D ≠ b := fun e => by have := h.lt; omega

def Up (C : Nat → Prop) (w : World) (C' : Nat → Prop) : Prop := ∀ k, C' k → C k ∨ w.heap.size ≤ k
theorem Up.refl (C : Nat → Prop) (w : World) : Up C w C := fun _ h => .inl h
theorem Up.le {C C' : Nat → Prop} {w w1 : World} (h : Up C w1 C') (hz : w.heap.size ≤ w1.heap.size) : Up C w C' := fun k hk => (h k hk).imp id (Nat.le_trans hz)
theorem Up.trans {C C1 C2 : Nat → Prop} {w : World} (h : Up C w C1) (k : Up C1 w C2) : Up C w C2 := fun i hi => (k i hi).elim (h i) .inr
theorem Up.not {C C' : Nat → Prop} {w : World} {b : Nat} (h : Up C w C') (hb : b < w.heap.size) (hn : ¬ C b) : ¬ C' b := fun e => (h b e).elim hn (fun e => by omega)
theorem _root_.Go.XL.Agr.up {C C1 : Nat → Prop} {w w1 w2 : World} (h : Agr C w w1) (u : Up C w C1) (k : Agr C1 w1 w2) : Agr C w w2 :=
  ⟨k.os.trans h.os, k.tape.trans h.tape, k.output.trans h.output, Nat.le_trans h.size k.size, fun i hi hn =>
    (k.block i (Nat.lt_of_lt_of_le hi h.size) (u.not hi hn)).trans (h.block i hi hn)⟩
/-- C are the blocks that it may turn; it may add new ones; cnt goes on by one at most, and stays below N -/
def YT {σ α : Type} (P : Program) (l : Nat) (enc : α → Value) (ok : α → Prop) (cnt : σ → Nat) (N : Nat) (H : σ → Bool → (Nat → Prop) → World → Prop) (step : σ → α → σ × Bool) : Prop :=
  ∀ (s : σ) (x : α) (C : Nat → Prop) (W : World), ok x → cnt s < N → Ft C (H s true C) W → FY P l [enc x] W (fun v w' => ∃ C', v = .bool (step s x).2 ∧ Ft C' (H (step s x).1 (step s x).2 C') w' ∧ Agr C W w' ∧ Up C W C')
/-- all of a row, until it is enough -/
def pushF {σ α : Type} (step : σ → α → σ × Bool) (s : σ) : List α → σ × Bool
  | [] => (s, true)
  | x :: xs => if (step s x).2 = true then pushF step (step s x).1 xs else ((step s x).1, false)
section
variable {σ α : Type} {step : σ → α → σ × Bool} {s : σ} {x : α}
theorem pushF_app {L R : List α} (h : (pushF step s L).2 = true) : pushF step s (L ++ R) = pushF step (pushF step s L).1 R := by
  induction L generalizing s with
  | nil => rfl
  | cons y L ih =>
    simp only [List.cons_append, pushF] at h ⊢
    by_cases q : (step s y).2 = true
    · rw [if_pos q] at h; rw [if_pos q, if_pos q]; exact ih h
    · rw [if_neg q] at h; cases h
theorem pushF_l {L R : List α} (h : (pushF step s L).2 = false) : pushF step s (L ++ R) = pushF step s L := by
  induction L generalizing s with
  | nil => simp [pushF] at h
  | cons y L ih =>
    simp only [List.cons_append, pushF] at h ⊢
    by_cases q : (step s y).2 = true
    · rw [if_pos q] at h; rw [if_pos q, if_pos q]; exact ih h
    · rw [if_neg q, if_neg q]
theorem pushF_cnt {cnt : σ → Nat} (h : ∀ s x, cnt (step s x).1 ≤ cnt s + 1) : ∀ (L : List α) (s : σ), cnt (pushF step s L).1 ≤ cnt s + L.length
  | [], s => Nat.le_refl _
  | x :: L, s => by
    have h1 := h s x
    rw [pushF]
    split
    · have := pushF_cnt h L (step s x).1
      simp only [List.length_cons]; omega
    · simp only [List.length_cons]; omega
theorem pushF_t {xs : List α} (h : (step s x).2 = true) : pushF step s (x :: xs) = pushF step (step s x).1 xs := by rw [pushF, if_pos h]
theorem pushF_f {xs : List α} (h : (step s x).2 = false) : pushF step s (x :: xs) = ((step s x).1, false) := by rw [pushF, if_neg (by simp [h])]
end
end
end Go.Proofs.Ytbfjobmebkhblaa
set_option linter.unusedVariables false
set_option linter.unusedSimpArgs false
namespace Go.Proofs.Ytbfjobmebkhblaa
open Go Go.XL
abbrev Ho (b : Nat) (s : St) (C : Nat → Prop) (u : World) : Prop := FoG 108 b s C u
theorem c_hget (b : Nat) (s : St) (C : Nat → Prop) (r : Int) (hr : U64 r) (w : World) (hF : Ft C (Ho b s C) w) :
    FC Try.prog 77 [.pointer (some ⟨b, 0, none⟩), .int .u64 r] w (Val (getN s.1 r).val w) := by
  obtain ⟨hCb, na, fa, nc, fc, M, hbf, hnc, hfc, hA, hMb, hMC⟩ := hF.now
  obtain ⟨e, hgv⟩ := getN_v s.1 r
  have hA := hA.now
  refine FC.intro Try.func77 rfl Try.ntmps77 rfl ?_
  have S := Sub.refl w
  refine RC.seq ?_
  refine RC.region rfl ?_
  refine RL.alloc ze97 rfl rfl (fun b_4 w_4 e_4 z_4 hb_4 s_4 => ?_)
  have ge_4 := S.le e_4
  have n__4 := hbf.ne e_4
  have S := S.trans s_4
  have hbf := hbf.sub s_4
  refine RL.nil (RC.back ?_)
  refine RC.seq ?_
  refine RC.region rfl ?_
  refine RL.ev (.move rfl) rfl rfl ?_
  refine RL.ev (.nilCheck rfl) rfl rfl ?_
  refine RL.ev (.field0 fo108_0 rfl) rfl rfl ?_
  refine RL.ev (.loadR (wvA na fa nc fc s.1) sh34 rfl (row_pref (xs := wvA na fa nc fc s.1) (ys := [.int .i64 s.2]) hbf) rfl) rfl rfl ?_
  refine RL.ev (.move rfl) rfl rfl ?_
  refine RL.call rfl ok94 (c_aGet s.1 na fa nc fc r hr w_4 (hA.sub S)) rfl rfl ?_
  rintro _ w1 ⟨rfl, s2⟩
  have S := S.trans s2
  have hbf := hbf.sub s2
  have hb_4 := hb_4.sub s2
  refine RL.ev (.as (v' := .tuple #[(getN s.1 r).val, .int .i64 e]) (.move rfl) (by rw [hgv])) rfl rfl ?_
  refine RL.ev (.extract rfl rfl) rfl rfl ?_
  refine RL.ev (.extract rfl rfl) rfl rfl ?_
  refine RL.alloc ze97 rfl rfl (fun b_5 w_5 e_5 z_5 hb_5 s_5 => ?_)
  have ge_5 := S.le e_5
  have n__5 := hbf.ne e_5
  have n_4__5 := hb_4.ne e_5
  have S := S.trans s_5
  have hbf := hbf.sub s_5
  have hb_4 := hb_4.sub s_5
  refine RL.store sh97 rfl rfl rfl hb_5 (by exact Nat.le_of_ble_eq_true rfl) (by rfl) rfl (fun w3 z3 hb_5 a3 => ?_)
  have S := S.upd a3 ge_5
  have hbf := hbf.upd a3 n__5
  have hb_4 := hb_4.upd a3 n_4__5
  have hb_5 : Has w3 b_5 ((getN s.1 r).cells) _ := hb_5.now (by kernel_rfl)
  refine RL.ev (.assign rfl) rfl rfl ?_
  refine RL.nil (RC.back ?_)
  refine RC.seq ?_
  refine RC.region rfl ?_
  refine RL.ev (.loadR ((getN s.1 r).cells) sh97 rfl hb_5.row rfl) rfl rfl ?_
  refine RL.store sh97 rfl rfl rfl hb_4 (by exact Nat.le_of_ble_eq_true rfl) (by rfl) rfl (fun w4 z4 hb_4 a4 => ?_)
  have S := S.upd a4 ge_4
  have hbf := hbf.upd a4 n__4
  have hb_5 := hb_5.upd a4 n_4__5.symm
  have hb_4 : Has w4 b_4 ((getN s.1 r).cells) _ := hb_4.now (by kernel_rfl)
  refine RL.nil (RC.back ?_)
  refine RC.done (rs := [.cell 4 97]) (vs := [_]) rfl rfl ⟨⟨_, rfl, .inr ⟨(getN s.1 r).cells, sh97, hb_4.row, rfl⟩⟩, trivial⟩ ?_
  -- end 1
  exact ⟨rfl, S⟩
theorem hN_ok {kd g n v s : Int} {ks : List Int} (h1 : I64 kd) (h2 : I64 g) (h3 : I64 n) (h4 : I64 v) (h5 : I64 s) (h6 : ∀ k ∈ ks, U64 k) : (hN kd g n v s ks).ok := by
  have hz : ∀ i, U64 (ks.getD i 0) := fun i => by
    rw [List.getD_eq_getElem?_getD]
    cases h : ks[i]? with
    | none => exact zu64
    | some x => exact h6 x (List.mem_of_getElem? h)
  refine ⟨h1, h2, h3, h4, h5, ?_, z64, z64⟩
  intro k hk
  simp only [hN, Node.kids, List.mem_cons, List.not_mem_nil, or_false] at hk
  rcases hk with rfl | rfl | rfl | rfl | rfl | rfl | rfl | rfl | rfl <;> exact hz _
def hC (kd s : Int) (ks : List Int) : List Value := (hN kd 0 0 0 s ks).cells
end Go.Proofs.Ytbfjobmebkhblaa
set_option linter.unusedVariables false
set_option linter.unusedSimpArgs false
namespace Go.Proofs.Ytbfjobmebkhblaa
open Go Go.XL
def layF : Nat → List Node → Nat → List It → List Node × Int
  | 0, ns, _, _ => (ns, 0)
  | k + 1, ns, at_, l => if topL l < 0 then (ns, 0) else
    ((layF k (layF k ns (at_ + 1) (l.take (topL l).toNat)).1 (at_ + 1 + (topL l).toNat) (l.drop ((topL l).toNat + 1))).1.set at_
      (tNode 0 (l.getD (topL l).toNat it0).k (l.getD (topL l).toNat it0).v l.length (layF k ns (at_ + 1) (l.take (topL l).toNat)).2 (layF k (layF k ns (at_ + 1) (l.take (topL l).toNat)).1 (at_ + 1 + (topL l).toNat) (l.drop ((topL l).toNat + 1))).2), (at_ : Int) + 1)
def buildA (size : Nat) (l : List It) : Ar := ⟨(layF (l.length + 1) (List.replicate size (bareN 0)) 0 l).1, freeB size (size - l.length)⟩
end Go.Proofs.Ytbfjobmebkhblaa
set_option linter.unusedVariables false
set_option linter.unusedSimpArgs false
namespace Go.Proofs.Ytbfjobmebkhblaa
open Go Go.XL
def szF (A : Ar) (a b : Int) : Int := IntKind.i64.wrap (IntKind.i64.wrap (1 + sizeA A a) + sizeA A b)
def mkN (A : Ar) (n v a b : Int) : Node := tNode 0 n v (szF A a b) a b
/-- one node is made -/
def Mk (s : St) (n v a b : Int) (s' : St) (r : Int) : Prop :=
  (¬ s.2 = 0 ∧ s' = s ∧ r = 0) ∨ (s.2 = 0 ∧ mayMake s.1 (mkN s.1 n v a b) ∧ 0 < s.1.free.length ∧ s' = (makeA s.1 (mkN s.1 n v a b), 0) ∧ r = makeR s.1) ∨
  (s.2 = 0 ∧ mayMake s.1 (mkN s.1 n v a b) ∧ s.1.free.length = 0 ∧ s' = (s.1, 2) ∧ r = 0) ∨ (s.2 = 0 ∧ ¬ mayMake s.1 (mkN s.1 n v a b) ∧ s' = (s.1, 1) ∧ r = 0)
theorem IsT.right {A : Ar} {r : Int} {L : List It} (h : IsT A r L) : rightR r = true := by
  cases h with
  | nil => exact (rightR_iff 0).2 (.inl rfl)
  | node h1 =>
    have h2 := (getA_rng h1).1
    refine Classical.byContradiction fun e => ?_
    rw [placeR_not (fun hn : nodeR r => e hn.2)] at h2
    omega
theorem Mk.gs {s s' : St} {n v a b r : Int} (h : Mk s n v a b s' r) (hA : AOk s.1) (hk : s.2 = 0 → rightR a = true ∧ rightR b = true) : Gs 1 s s' := by
  have hmay : s.2 = 0 → mayMake s.1 (mkN s.1 n v a b) := fun h0 => by
    obtain ⟨h1, h2⟩ := hk h0
    refine ⟨hA, Int.le_refl 1, (by decide : (1 : Int) ≤ 100), ?_⟩
    have h3 : rightR 0 = true := (rightR_iff 0).2 (.inl rfl)
    rw [well_iff]
    refine ⟨by simp [x0, mkN, tNode], ?_⟩
    simp [x0, mkN, tNode, Node.kids, h1, h2, h3]
  rcases h with ⟨h0, rfl, rfl⟩ | ⟨h0, hm, hf, rfl, rfl⟩ | ⟨h0, hm, hf, rfl, rfl⟩ | ⟨h0, hm, rfl, rfl⟩
  · exact (Gs.refl hA).mono (by omega)
  · refine ⟨make_ext hA hf, make_ok hm hf, ?_, fun e => absurd h0 e, fun _ e => absurd rfl e⟩
    simp only [makeA, List.length_take]; omega
  · exact ⟨Ext.refl _, hA, by omega, fun e => absurd h0 e, fun _ _ => ⟨rfl, by omega⟩⟩
  · exact absurd (hmay h0) hm
theorem Mk.u64 {s s' : St} {n v a b r : Int} (h : Mk s n v a b s' r) : U64 r := by
  rcases h with ⟨_, _, rfl⟩ | ⟨_, hm, hf, _, rfl⟩ | ⟨_, _, _, _, rfl⟩ | ⟨_, _, _, rfl⟩
  · unfold U64; decide
  · exact ofR_U64 (make_isR hm.1 hf)
  · unfold U64; decide
  · unfold U64; decide
def ltL (key : Int) (L : List It) : List It := L.filter fun x => decide (x.k < key)
def gtL (key : Int) (L : List It) : List It := L.filter fun x => decide (key < x.k)
def putL (L : List It) (key v : Int) : List It := ltL key L ++ ⟨key, v⟩ :: gtL key L
def delL (L : List It) (key : Int) : List It := L.filter fun x => decide (¬ x.k = key)
theorem filter_all {p : It → Bool} {L : List It} (h : ∀ y ∈ L, p y = true) : L.filter p = L := List.filter_eq_self.2 h
section
variable {L R : List It} {it : It} {key v : Int}
theorem Srt.sub {p : It → Bool} (h : Srt L) : Srt (L.filter p) := List.Pairwise.filter _ h
theorem Srt.put (h : Srt L) : Srt (putL L key v) := by
  unfold putL
  refine Srt.join h.sub h.sub (fun y hy => ?_) (fun y hy => ?_)
  · have := (List.mem_filter.1 hy).2; simpa using this
  · have := (List.mem_filter.1 hy).2; simpa using this
end
end Go.Proofs.Ytbfjobmebkhblaa
set_option linter.unusedVariables false
set_option linter.unusedSimpArgs false
namespace Go.Proofs.Ytbfjobmebkhblaa
open Go Go.XL
/-- a row put together of keys -/
def rowN (f : Int → Int) (g : Int → Int) (most : Nat) (l : List Int) : Nat → List It
  | 0 => []
  | i + 1 => if i < most then putR (rowN f g most l i) (f (l.getD i 0)) (g i) else rowN f g most l i
theorem rowN_put {f g : Int → Int} {most i : Nat} {l : List Int} {x : Int} (h : l[i]? = some x) (hi : i < most) : rowN f g most l (i + 1) = putR (rowN f g most l i) (f x) (g i) := by
  rw [rowN, if_pos hi, List.getD_eq_getElem?_getD, h]; rfl
theorem rowN_stay {f g : Int → Int} {most i : Nat} {l : List Int} (hi : ¬ i < most) : rowN f g most l (i + 1) = rowN f g most l i := by rw [rowN, if_neg hi]
theorem rowN_srt (f g : Int → Int) (most : Nat) (l : List Int) : ∀ i, Srt (rowN f g most l i)
  | 0 => List.Pairwise.nil
  | i + 1 => by
    rw [rowN]
    split
    · exact putR_ok (rowN_srt f g most l i) _ _
    · exact rowN_srt f g most l i
theorem rowN_len (f g : Int → Int) (most : Nat) (l : List Int) : ∀ i, (rowN f g most l i).length ≤ most ∧ (rowN f g most l i).length ≤ i
  | 0 => by simp [rowN]
  | i + 1 => by
    have h := rowN_len f g most l i
    rw [rowN]
    split
    · have := putR_len (rowN f g most l i) (f (l.getD i 0)) (g i); omega
    · omega
theorem rowN_all {f g : Int → Int} {most : Nat} {l : List Int} {P : It → Prop} (hl : ∀ x ∈ l, ∀ i : Nat, i < most → P ⟨f x, g i⟩) : ∀ i, i ≤ l.length → ∀ z ∈ rowN f g most l i, P z
  | 0, _ => by simp [rowN]
  | i + 1, hi => by
    intro z hz
    obtain ⟨x, hx⟩ := getSome (l := l) (i := i) (by omega)
    by_cases q : i < most
    · rw [rowN_put hx q] at hz
      rcases (putR_mem (rowN_srt f g most l i)).1 hz with h | h
      · rw [h]; exact hl x (List.mem_of_getElem? hx) i q
      · exact rowN_all hl i (by omega) z h.1
    · rw [rowN_stay q] at hz
      exact rowN_all hl i (by omega) z hz
/-- is a key there? -/
def hasK (l : List It) (key : Int) : Bool := l.any fun x => decide (x.k = key)
theorem hasK_iff {l : List It} {key : Int} : hasK l key = true ↔ ∃ y ∈ l, y.k = key := by simp [hasK]
theorem hasK_no {l : List It} {key : Int} (h : ∀ y ∈ l, ¬ y.k = key) : hasK l key = false := by
  rw [Bool.eq_false_iff]; intro e; obtain ⟨y, hy, e⟩ := hasK_iff.1 e; exact h y hy e
end Go.Proofs.Ytbfjobmebkhblaa
set_option linter.unusedVariables false
set_option linter.unusedSimpArgs false
namespace Go.Proofs.Ytbfjobmebkhblaa
open Go Go.XL
def putM (L : List It) (key v : Int) : List It := ⟨key, v⟩ :: delL L key
section
variable {L M : List It} {key v : Int}
theorem delL_mem {y : It} : y ∈ delL L key ↔ y ∈ L ∧ ¬ y.k = key := by unfold delL; rw [List.mem_filter, decide_eq_true_iff]
theorem Ap.del (h : Ap L) : Ap (delL L key) := h.filter _
theorem Ap.put (h : Ap L) : Ap (putM L key v) := List.pairwise_cons.2 ⟨fun y hy e => (delL_mem.1 hy).2 e.symm, h.del⟩
theorem delL_none (h : ∀ x ∈ L, ¬ x.k = key) : delL L key = L := filter_all fun y hy => by simpa using h y hy
theorem delL_len (h : Ap L) : (delL L key).length + (if hasK L key then 1 else 0) = L.length := by
  induction L with
  | nil => rfl
  | cons x L ih =>
    obtain ⟨h1, h2⟩ := List.pairwise_cons.1 h
    by_cases e : x.k = key
    · have h3 : delL L key = L := delL_none fun y hy e2 => h1 y hy (by omega)
      have h4 : hasK (x :: L) key = true := hasK_iff.2 ⟨x, by simp, e⟩
      have h5 : delL (x :: L) key = delL L key := by unfold delL; rw [List.filter_cons, if_neg (by simpa using e)]
      rw [h4, h5, h3]; rfl
    · have h4 : hasK (x :: L) key = hasK L key := by simp [hasK, e]
      have h5 : delL (x :: L) key = x :: delL L key := by unfold delL; rw [List.filter_cons, if_pos (by simpa using e)]
      rw [h4, h5, List.length_cons, List.length_cons, ← ih h2]; omega
theorem putM_len (h : Ap L) : (putM L key v).length + (if hasK L key then 1 else 0) = L.length + 1 := by
  have := delL_len (key := key) h
  unfold putM
  rw [List.length_cons]; omega
theorem del_parts (key : Int) : ∀ L : List It, (delL L key).Perm (ltL key L ++ gtL key L)
  | [] => List.Perm.refl _
  | x :: L => by
    have ih := del_parts key L
    unfold delL ltL gtL at ih ⊢
    simp only [List.filter_cons]
    rcases Int.lt_trichotomy x.k key with h | h | h
    · rw [if_pos (by simp; omega), if_pos (by simpa using h), if_neg (by simp; omega)]
      exact List.Perm.cons x ih
    · rw [if_neg (by simp; omega), if_neg (by simp; omega), if_neg (by simp; omega)]
      exact ih
    · rw [if_pos (by simp; omega), if_neg (by simp; omega), if_pos (by simpa using h)]
      exact (List.Perm.cons x ih).trans List.perm_middle.symm
theorem putL_putM : (putL L key v).Perm (putM L key v) := by
  unfold putL putM
  exact List.perm_middle.trans (List.Perm.cons _ (del_parts key L).symm)
variable {lv i : Nat}
theorem Ap.of (h : Ap L) (lv i : Nat) : Ap (ofL lv i L) := h.filter _
end
def cnt : Nat → List It → Nat
  | 0, l => if l.length ≤ 1 then l.length else 1 + l.length
  | k + 1, l => if l.length ≤ 1 then l.length else 1 + (cnt k (ofL (9 - k) 0 l) + cnt k (ofL (9 - k) 1 l) + cnt k (ofL (9 - k) 2 l) + cnt k (ofL (9 - k) 3 l))
theorem cnt_few {k : Nat} {l : List It} (h : l.length ≤ 1) : cnt k l = l.length := by cases k <;> (rw [cnt]; exact if_pos h)
theorem cnt_0 {l : List It} (h : 2 ≤ l.length) : cnt 0 l = 1 + l.length := by rw [cnt]; exact if_neg (by omega)
theorem cnt_s {k : Nat} {l : List It} (h : 2 ≤ l.length) : cnt (k + 1) l = 1 + (cnt k (ofL (9 - k) 0 l) + cnt k (ofL (9 - k) 1 l) + cnt k (ofL (9 - k) 2 l) + cnt k (ofL (9 - k) 3 l)) := by rw [cnt]; exact if_neg (by omega)
theorem cnt_le : ∀ (k : Nat) (l : List It), cnt k l ≤ (k + 2) * l.length
  | k, l => by
    by_cases h : l.length ≤ 1
    · rw [cnt_few h]; exact Nat.le_mul_of_pos_left _ (by omega)
    · cases k with
      | zero => rw [cnt_0 (by omega)]; omega
      | succ k =>
        rw [cnt_s (by omega)]
        have h0 := cnt_le k (ofL (9 - k) 0 l)
        have h1 := cnt_le k (ofL (9 - k) 1 l)
        have h2 := cnt_le k (ofL (9 - k) 2 l)
        have h3 := cnt_le k (ofL (9 - k) 3 l)
        have hp := part_len (9 - k) l
        have e : (k + 1 + 2) * l.length = (k + 2) * (ofL (9 - k) 0 l).length + (k + 2) * (ofL (9 - k) 1 l).length + (k + 2) * (ofL (9 - k) 2 l).length + (k + 2) * (ofL (9 - k) 3 l).length + l.length := by
          rw [← Nat.mul_add, ← Nat.mul_add, ← Nat.mul_add, hp, show k + 1 + 2 = (k + 2) + 1 by omega, Nat.succ_mul]
        omega
def HoQ (n : Nat) (s s' : St) : Prop := Gs n s s' ∧ (¬ s.2 = 0 → s' = s)
theorem MkX.bad {s s' : St} {x : Node} {r : Int} (h : MkX s x s' r) (hb : ¬ s.2 = 0) : s' = s := by
  rcases h with ⟨_, h, _⟩ | ⟨h, _⟩ | ⟨h, _⟩ | ⟨h, _⟩
  · exact h
  all_goals exact absurd h hb
theorem cnt_nil (k : Nat) : cnt k [] = 0 := cnt_few (by simp)
theorem Ext.gs {A : Ar} {n : Nat} {s s' : St} (h : Ext A s.1) (g : Gs n s s') : Ext A s'.1 := h.trans g.ext
theorem HoQ.mono {n m : Nat} {s s' : St} (h : HoQ n s s') (hn : n ≤ m) : HoQ m s s' := ⟨h.1.mono hn, h.2⟩
theorem HoQ.trans {n m : Nat} {a b c : St} (h : HoQ n a b) (k : HoQ m b c) : HoQ (n + m) a c := ⟨h.1.trans k.1, fun e => by have e1 := h.2 e; rw [k.2 (by rw [e1]; exact e), e1]⟩
theorem MkX.hq {n : Nat} {s s' : St} {x : Node} {r : Int} (hm : MkX s x s' r) (h : Gs n s s') : HoQ n s s' := ⟨h, hm.bad⟩
/-- there is room for a key among those of its hash -/
def Room (key : Int) (L : List It) : Prop := hasK L key = false → (L.filter fun x => decide (hashOf x.k = hashOf key)).length ≤ 8
theorem Room.of {key : Int} {L : List It} {lv : Nat} (h : Room key L) : Room key (ofL lv (dig key lv) L) := by
  intro hn
  have h0 : hasK L key = false := hasK_no fun x hx e => by rw [hasK_iff.2 ⟨x, ofL_mem.2 ⟨hx, by rw [e]⟩, e⟩] at hn; cases hn
  refine Nat.le_trans (List.Sublist.length_le ?_) (h h0)
  exact (List.filter_sublist).filter _
theorem hasK_perm {key : Int} {L M : List It} (p : L.Perm M) : hasK L key = hasK M key := by
  rw [Bool.eq_iff_iff, hasK_iff, hasK_iff]
  exact ⟨fun ⟨y, hy, e⟩ => ⟨y, p.mem_iff.1 hy, e⟩, fun ⟨y, hy, e⟩ => ⟨y, p.mem_iff.2 hy, e⟩⟩
end Go.Proofs.Ytbfjobmebkhblaa
set_option linter.unusedVariables false
set_option linter.unusedSimpArgs false
namespace Go.Proofs.Ytbfjobmebkhblaa
open Go Go.XL
def bareH (y : Node) : Node := ⟨y.kind, y.gen, 0, 0, y.s, y.k0, y.k1, y.k2, y.k3, y.k4, y.k5, y.k6, y.k7, y.k8, 0, 0⟩
def leafH (y : Node) : Node := ⟨y.kind, y.gen, y.n, y.v, 0, 0, 0, 0, 0, 0, 0, 0, 0, 0, 0, 0⟩
theorem bareH_iff {y : Node} : bareH y = y ↔ y = hN y.kind y.gen 0 0 y.s y.kids := by
  cases y; simp [bareH, hN, Node.kids]; omega
theorem leafH_iff {y : Node} : leafH y = y ↔ y = hN y.kind y.gen y.n y.v 0 [] := by
  cases y; simp [leafH, hN]; omega
theorem hN_kid {kd g n v s : Int} {ks : List Int} {i : Nat} (h : i < 9) : (hN kd g n v s ks).kids.getD i 0 = ks.getD i 0 := by
  rcases i with _|_|_|_|_|_|_|_|_|i
  all_goals first | rfl | omega
theorem kids_ext {y : Node} {kd g n v s : Int} {ks : List Int} (h : y = hN kd g n v s y.kids) (e : ∀ i, i < 9 → y.kids.getD i 0 = ks.getD i 0) : y = hN kd g n v s ks := by
  rw [h]
  have e0 := e 0 (by omega)
  have e1 := e 1 (by omega)
  have e2 := e 2 (by omega)
  have e3 := e 3 (by omega)
  have e4 := e 4 (by omega)
  have e5 := e 5 (by omega)
  have e6 := e 6 (by omega)
  have e7 := e 7 (by omega)
  have e8 := e 8 (by omega)
  unfold hN
  rw [e0, e1, e2, e3, e4, e5, e6, e7, e8]
/-- what may be at a level -/
def MayT (A : Ar) (k : Nat) (r : Int) (d : Nat) (left : Int) (l : List It) : Prop := IsH A k r l ∧ Fam (10 - k) d l ∧ Ap l ∧ (l.length : Int) ≤ left
def MayP (A : Ar) (k : Nat) (r : Int) (d : Nat) (left : Int) (n : Int) : Prop := (∃ l, MayT A k r d left l ∧ n = l.length) ∨ (n = -1 ∧ ∀ l, ¬ MayT A k r d left l)
section
variable {A : Ar} {k d i : Nat} {r left n sum many : Int} {y : Node} {l : List It}
theorem MayP.rng (h : MayP A k r d left n) (hl : 0 ≤ left) : -1 ≤ n ∧ n ≤ left := by
  rcases h with ⟨l, h, rfl⟩ | ⟨rfl, _⟩
  · have := h.2.2.2; omega
  · omega
theorem mayT_0 (h0 : 0 ≤ left) : MayT A k 0 d left [] := ⟨isH_nil.2 rfl, Fam.nil _ _, List.Pairwise.nil, by simpa using h0⟩
theorem mayP_0 (h0 : 0 ≤ left) : MayP A k 0 d left 0 := .inl ⟨[], mayT_0 h0, rfl⟩
theorem MayT.cases (hr : ¬ r = 0) (h : MayT A k r d left l) : (∃ x, l = [x] ∧ lfA A r x) ∨ 2 ≤ l.length := by
  rcases row_cases l with rfl | ⟨x, rfl⟩ | hl
  · exact absurd (isH_nil.1 h.1) hr
  · exact .inl ⟨x, rfl, isH_one.1 h.1⟩
  · exact .inr hl
theorem mayP_bad (hr : ¬ r = 0) (h : getA A r = none ∨ left ≤ 0) : MayP A k r d left (-1) := by
  refine .inr ⟨rfl, fun l hT => ?_⟩
  have hp : 0 < l.length := by
    rcases row_cases l with rfl | ⟨x, rfl⟩ | hl
    · exact absurd (isH_nil.1 hT.1) hr
    · simp
    · omega
  have := hT.2.2.2
  rcases h with h | h
  · rcases hT.cases hr with ⟨x, _, g, hx⟩ | hl
    · rw [h] at hx; cases hx
    · obtain ⟨_, _, _, _, hx⟩ := hT.1.node hl
      rw [h] at hx; cases hx
  · omega
theorem lfA_iff (h : getA A r = some y) {x : It} : lfA A r x ↔ y.kind = 3 ∧ leafH y = y ∧ y.n = x.k ∧ y.v = x.v := by
  constructor
  · rintro ⟨g, hx⟩
    rw [h] at hx
    cases hx
    exact ⟨rfl, rfl, rfl, rfl⟩
  · rintro ⟨h1, h2, h3, h4⟩
    refine ⟨y.gen, ?_⟩
    have := leafH_iff.1 h2
    rw [h1, h3, h4] at this
    rw [h, ← this]
theorem mayP_leaf (hr : ¬ r = 0) (h : getA A r = some y) (h3 : y.kind = 3) (hl : 0 < left) : (leafH y = y ∧ hashOf y.n % 4 ^ (10 - k) = d → MayP A k r d left 1) ∧ (¬ (leafH y = y ∧ hashOf y.n % 4 ^ (10 - k) = d) → MayP A k r d left (-1)) := by
  constructor
  · rintro ⟨h1, h2⟩
    refine .inl ⟨[⟨y.n, y.v⟩], ⟨isH_one.2 ((lfA_iff h).2 ⟨h3, h1, rfl, rfl⟩), fun x hx => ?_, List.pairwise_singleton _ _, by simp only [List.length_singleton]; omega⟩, rfl⟩
    rw [List.mem_singleton.1 hx]; exact h2
  · intro hn
    refine .inr ⟨rfl, fun l hT => ?_⟩
    rcases hT.cases hr with ⟨x, rfl, hx⟩ | hl
    · have hx := (lfA_iff h).1 hx
      refine hn ⟨hx.2.1, ?_⟩
      rw [hx.2.2.1]
      exact hT.2.1 x (by simp)
    · obtain ⟨kd, g, ks, hk, hx⟩ := hT.1.node hl
      rw [h] at hx
      cases hx
      rcases hk with ⟨rfl, _⟩ | ⟨rfl, _⟩
      · exact absurd h3 (show ¬ (2 : Int) = 3 by decide)
      · exact absurd h3 (show ¬ (4 : Int) = 3 by decide)
theorem mayP_odd (hr : ¬ r = 0) (h : getA A r = some y) (h3 : ¬ y.kind = 3) (hb : ¬ bareH y = y ∨ y.kind = 2 ∧ k = 0 ∨ y.kind = 4 ∧ ¬ k = 0 ∨ ¬ y.kind = 2 ∧ ¬ y.kind = 4) : MayP A k r d left (-1) := by
  refine .inr ⟨rfl, fun l hT => ?_⟩
  rcases hT.cases hr with ⟨x, rfl, hx⟩ | hl
  · exact h3 ((lfA_iff h).1 hx).1
  · obtain ⟨kd, g, ks, hk, hx⟩ := hT.1.node hl
    rw [h] at hx
    cases hx
    rcases hb with hb | hb | hb | hb
    · exact hb rfl
    · rcases hk with ⟨rfl, q⟩ | ⟨rfl, q⟩
      · exact q hb.2
      · exact absurd hb.1 (show ¬ (4 : Int) = 2 by decide)
    · rcases hk with ⟨rfl, q⟩ | ⟨rfl, q⟩
      · exact absurd hb.1 (show ¬ (2 : Int) = 4 by decide)
      · exact hb.2 q
    · rcases hk with ⟨rfl, h⟩ | ⟨rfl, h⟩
      · exact hb.1 rfl
      · exact hb.2 rfl
theorem MayT.trie (h : getA A r = some y) (h2 : y.kind = 2) (hT : MayT A (k + 1) r d left l) : 2 ≤ l.length ∧ y.s = l.length ∧ (∀ j, j < 4 → IsH A k (y.kids.getD j 0) (ofL (9 - k) j l)) ∧ ∀ j, 4 ≤ j → j < 9 → y.kids.getD j 0 = 0 := by
  rcases hT.cases (getA_nz h) with ⟨x, rfl, hx⟩ | hl
  · have := ((lfA_iff h).1 hx).1; omega
  · obtain ⟨g, ks, e1, e2, e3⟩ := (isH_trie hl).1 hT.1
    rw [h] at e2
    cases e2
    refine ⟨hl, rfl, fun j hj => ?_, fun j h4 h9 => ?_⟩
    · rw [hN_kid (by omega)]; exact e3 j hj
    · rw [hN_kid h9, List.getD_eq_getElem?_getD, List.getElem?_eq_none (by omega)]; rfl
/-- how the loop over tables stands -/
def TrieS (A : Ar) (k : Nat) (y : Node) (d : Nat) (left : Int) (i : Nat) (sum : Int) : Prop := ∃ l : List It, (∀ x ∈ l, dig x.k (9 - k) < i) ∧ Fam (9 - k) d l ∧ Ap l ∧ (∀ j, j < i → j < 4 → IsH A k (y.kids.getD j 0) (ofL (9 - k) j l)) ∧ (∀ j, 4 ≤ j → j < i → y.kids.getD j 0 = 0) ∧ sum = l.length ∧ sum ≤ left
theorem trie_start (h0 : 0 ≤ left) : TrieS A k y d left 0 0 := ⟨[], fun x h => (by cases h), Fam.nil _ _, List.Pairwise.nil, fun j h => absurd h (by omega), fun j _ h => absurd h (by omega), rfl, h0⟩
theorem trie_step (hk : k ≤ 9) (hd : d < 4 ^ (9 - k)) (hS : TrieS A k y d left i sum) (hi : i < 9) (h4 : 4 ≤ i → y.kids.getD i 0 = 0) (hP : MayP A k (y.kids.getD i 0) (d + 4 ^ (9 - k) * (i % 4)) (left - sum) n) (hn : 0 ≤ n) : TrieS A k y d left (i + 1) (sum + n) := by
  obtain ⟨l, q1, q2, q3, q4, q5, q6, q7⟩ := hS
  rcases hP with ⟨m, ⟨m1, m2, m3, m4⟩, rfl⟩ | ⟨rfl, _⟩
  · rw [show 10 - k = 9 - k + 1 by omega] at m2
    by_cases hi4 : 4 ≤ i
    · rw [h4 hi4] at m1
      have hm : m = [] := m1.zero.1 rfl
      subst hm
      refine ⟨l, fun x hx => Nat.lt_succ_of_lt (q1 x hx), q2, q3, fun j hj hj4 => q4 j (by omega) hj4, fun j hj4 hj => ?_, by rw [q6]; simp, by simpa using q7⟩
      by_cases e : j = i
      · rw [e]; exact h4 hi4
      · exact q5 j hj4 (by omega)
    · rw [Nat.mod_eq_of_lt (by omega)] at m2
      obtain ⟨b1, b2⟩ := Fam.back hd (by omega) m2
      have of_l : ∀ j, i ≤ j → ofL (9 - k) j l = [] := fun j hj => List.filter_eq_nil_iff.2 fun x hx => by have := q1 x hx; simp; omega
      have of_m : ∀ j, ¬ j = i → ofL (9 - k) j m = [] := fun j hj => List.filter_eq_nil_iff.2 fun x hx => by have := b2 x hx; simp; omega
      have of_i : ofL (9 - k) i m = m := List.filter_eq_self.2 fun x hx => by simpa using b2 x hx
      have of_app : ∀ j, ofL (9 - k) j (l ++ m) = ofL (9 - k) j l ++ ofL (9 - k) j m := fun j => List.filter_append _ _
      refine ⟨l ++ m, fun x hx => ?_, fun x hx => ?_, List.pairwise_append.2 ⟨q3, m3, fun x hx z hz e => ?_⟩, fun j hj hj4 => ?_, fun j hj4 hj => absurd hj (by omega), by rw [q6, List.length_append]; omega, by omega⟩
      · rcases List.mem_append.1 hx with hx | hx
        · have := q1 x hx; omega
        · have := b2 x hx; omega
      · rcases List.mem_append.1 hx with hx | hx
        · exact q2 x hx
        · exact b1 x hx
      · have h1 := q1 x hx
        have h2 := b2 z hz
        rw [e] at h1; omega
      · rw [of_app]
        by_cases e : j = i
        · rw [e, of_l i (Nat.le_refl _), of_i]; exact m1
        · rw [of_m j e, List.append_nil]; exact q4 j (by omega) hj4
  · omega
theorem lt_succ_len (lv i : Nat) (l : List It) : (l.filter fun x => decide (dig x.k lv < i + 1)).length = (l.filter fun x => decide (dig x.k lv < i)).length + (ofL lv i l).length := by
  induction l with
  | nil => rfl
  | cons x l ih =>
    unfold ofL at ih ⊢
    simp only [List.filter_cons]
    rcases Nat.lt_trichotomy (dig x.k lv) i with h | h | h
    · rw [decide_eq_true (show dig x.k lv < i + 1 by omega), decide_eq_true h, decide_eq_false (show ¬ dig x.k lv = i by omega)]
      simp only [if_true, Bool.false_eq_true, if_false, List.length_cons, ih]; omega
    · rw [decide_eq_true (show dig x.k lv < i + 1 by omega), decide_eq_false (show ¬ dig x.k lv < i by omega), decide_eq_true h]
      simp only [if_true, Bool.false_eq_true, if_false, List.length_cons, ih]; omega
    · rw [decide_eq_false (show ¬ dig x.k lv < i + 1 by omega), decide_eq_false (show ¬ dig x.k lv < i by omega), decide_eq_false (show ¬ dig x.k lv = i by omega)]
      simp only [Bool.false_eq_true, if_false, ih]
theorem lt_len_eq (lv : Nat) (l m : List It) : ∀ i, (∀ j, j < i → (ofL lv j l).length = (ofL lv j m).length) → (l.filter fun x => decide (dig x.k lv < i)).length = (m.filter fun x => decide (dig x.k lv < i)).length
  | 0, _ => by
    rw [List.filter_eq_nil_iff.2 (fun x _ => by simp), List.filter_eq_nil_iff.2 (fun x _ => by simp)]
  | i + 1, h => by rw [lt_succ_len, lt_succ_len, lt_len_eq lv l m i (fun j hj => h j (by omega)), h i (by omega)]
theorem trie_no (hk : k ≤ 9) (h : getA A r = some y) (h2 : y.kind = 2) (hS : TrieS A k y d left i sum) (hi : i < 9) (hbad : 4 ≤ i ∧ ¬ y.kids.getD i 0 = 0 ∨ (∃ n, MayP A k (y.kids.getD i 0) (d + 4 ^ (9 - k) * (i % 4)) (left - sum) n ∧ n < 0)) : MayP A (k + 1) r d left (-1) := by
  refine .inr ⟨rfl, fun m hT => ?_⟩
  obtain ⟨t1, t2, t3, t4⟩ := hT.trie h h2
  obtain ⟨l, q1, q2, q3, q4, q5, q6, q7⟩ := hS
  rcases hbad with ⟨h4, hne⟩ | ⟨n, hP, hn⟩
  · exact hne (t4 i h4 hi)
  · rcases hP with ⟨_, _, rfl⟩ | ⟨_, hP⟩
    · omega
    · by_cases hi4 : 4 ≤ i
      · refine hP [] ?_
        rw [t4 i hi4 hi]
        exact mayT_0 (by omega)
      · refine hP (ofL (9 - k) i m) ⟨t3 i (by omega), ?_, hT.2.2.1.filter _, ?_⟩
        · rw [Nat.mod_eq_of_lt (by omega), show 10 - k = 9 - k + 1 by omega]
          have := hT.2.1
          rw [show 10 - (k + 1) = 9 - k by omega] at this
          exact this.of
        · have e1 : (l.filter fun x => decide (dig x.k (9 - k) < i)) = l := List.filter_eq_self.2 fun x hx => by simpa using q1 x hx
          have e2 := lt_len_eq (9 - k) l m i (fun j hj => by
            have h1 := (q4 j hj (by omega)).size
            have h2 := (t3 j (by omega)).size
            omega)
          rw [e1] at e2
          have e3 := lt_succ_len (9 - k) i m
          have e4 := List.length_filter_le (fun x : It => decide (dig x.k (9 - k) < i + 1)) m
          have := hT.2.2.2
          omega
theorem trie_end (hk : k ≤ 9) (h : getA A r = some y) (h2 : y.kind = 2) (hb : bareH y = y) (hS : TrieS A k y d left 9 sum) : (¬ (sum < 2 ∨ ¬ sum = y.s) → MayP A (k + 1) r d left sum) ∧ (sum < 2 ∨ ¬ sum = y.s → MayP A (k + 1) r d left (-1)) := by
  obtain ⟨l, q1, q2, q3, q4, q5, q6, q7⟩ := hS
  constructor
  · intro hc
    have c1 : ¬ sum < 2 := fun e => hc (.inl e)
    have c2 : sum = y.s := Decidable.not_not.1 fun e => hc (.inr e)
    refine .inl ⟨l, ⟨(isH_trie (by omega)).2 ⟨y.gen, [y.k0, y.k1, y.k2, y.k3], rfl, ?_, fun j hj => ?_⟩, ?_, q3, by omega⟩, q6⟩
    · have := bareH_iff.1 hb
      rw [h2, ← c2, q6] at this
      refine h.trans (congrArg some (kids_ext (ks := [y.k0, y.k1, y.k2, y.k3]) this (fun j hj => ?_)))
      by_cases h4 : 4 ≤ j
      · rw [q5 j h4 hj, List.getD_eq_getElem?_getD, List.getElem?_eq_none (by simpa using h4)]; rfl
      · rcases j with _|_|_|_|j
        all_goals first | rfl | omega
    · have := q4 j (by omega) hj
      rcases j with _|_|_|_|j
      all_goals first | exact this | omega
    · rw [show 10 - (k + 1) = 9 - k by omega]; exact q2
  · intro hc
    refine .inr ⟨rfl, fun m hT => ?_⟩
    obtain ⟨t1, t2, t3, t4⟩ := hT.trie h h2
    have e : l.length = m.length := by
      have h1 := part_len (9 - k) l
      have h2 := part_len (9 - k) m
      have h3 : ∀ j, j < 4 → (ofL (9 - k) j l).length = (ofL (9 - k) j m).length := fun j hj => by
        have h1 := (q4 j (by omega) hj).size
        have h2 := (t3 j hj).size
        omega
      rw [h3 0 (by omega), h3 1 (by omega), h3 2 (by omega), h3 3 (by omega)] at h1
      omega
    omega
theorem MayT.clash (h : getA A r = some y) (h4 : y.kind = 4) (hT : MayT A 0 r d left l) : ∃ m, List.Perm m l ∧ Srt m ∧ 2 ≤ m.length ∧ m.length ≤ 9 ∧ y.s = m.length ∧ (∀ j x, m[j]? = some x → lfA A (y.kids.getD j 0) x) ∧ Fam 10 d m ∧ ∀ j, m.length ≤ j → j < 9 → y.kids.getD j 0 = 0 := by
  rcases hT.cases (getA_nz h) with ⟨x, rfl, hx⟩ | hl
  · have := ((lfA_iff h).1 hx).1; omega
  · obtain ⟨g, ks, m, e1, e2, e3, e4, e5, e6⟩ := (isH_clash hl).1 hT.1
    rw [h] at e5
    cases e5
    refine ⟨m, e1, e2, by rw [e1.length_eq]; exact hl, e3, rfl, fun j x hx => ?_, hT.2.1.perm e1, fun j h1 h9 => ?_⟩
    · have := lt_of_get hx
      rw [hN_kid (by omega)]; exact e6 j x hx
    · rw [hN_kid h9, List.getD_eq_getElem?_getD, List.getElem?_eq_none (by omega)]; rfl
/-- how the loop over leaves stands -/
def ClashS (A : Ar) (y : Node) (d i : Nat) (many : Int) : Prop := ∃ m : List It, Srt m ∧ many = m.length ∧ m.length ≤ i ∧ (∀ j x, m[j]? = some x → lfA A (y.kids.getD j 0) x) ∧ Fam 10 d m ∧ ∀ j, m.length ≤ j → j < i → y.kids.getD j 0 = 0
theorem clash_start : ClashS A y d 0 0 := ⟨[], List.Pairwise.nil, rfl, Nat.le_refl _, fun j x h => (by cases h), Fam.nil _ _, fun j _ h => absurd h (by omega)⟩
theorem clash_skip (hS : ClashS A y d i many) (h0 : y.kids.getD i 0 = 0) : ClashS A y d (i + 1) many := by
  obtain ⟨m, q1, q2, q3, q4, q5, q6⟩ := hS
  refine ⟨m, q1, q2, by omega, q4, q5, fun j h1 h2 => ?_⟩
  by_cases e : j = i
  · rw [e]; exact h0
  · exact q6 j h1 (by omega)
theorem clash_step {z : Node} (hS : ClashS A y d i many) (hi : (i : Int) = many) (hz : getA A (y.kids.getD i 0) = some z) (h3 : z.kind = 3) (hP : MayP A 0 (y.kids.getD i 0) d 1 1) (hlt : 0 < i → (getN A (y.kids.getD (i - 1) 0)).n < z.n) : ClashS A y d (i + 1) (many + 1) := by
  obtain ⟨m, q1, q2, q3, q4, q5, q6⟩ := hS
  have hmi : m.length = i := by omega
  rcases hP with ⟨l, ⟨m1, m2, m3, m4⟩, hl⟩ | ⟨h, _⟩
  · have hl1 : l.length = 1 := by omega
    obtain ⟨x, rfl⟩ := List.length_eq_one_iff.1 hl1
    have hx := isH_one.1 m1
    have hx2 := (lfA_iff hz).1 hx
    refine ⟨m ++ [x], ?_, by rw [q2, List.length_append]; rfl, by rw [List.length_append, List.length_singleton]; omega, fun j z' hj => ?_, fun z' hz' => ?_, fun j h1 h2 => absurd h1 (by rw [List.length_append, List.length_singleton]; omega)⟩
    · refine List.pairwise_append.2 ⟨q1, List.pairwise_singleton _ _, fun a ha b hb => ?_⟩
      rw [List.mem_singleton.1 hb]
      have hpos : 0 < m.length := List.length_pos_of_mem ha
      obtain ⟨t, ht⟩ := getSome (l := m) (i := m.length - 1) (by omega)
      have hl2 := q4 _ t ht
      rw [hmi] at hl2
      obtain ⟨g, hg⟩ := hl2.getN
      have h5 := hlt (by omega)
      rw [hg] at h5
      have h6 : t.k < x.k := by rw [← hx2.2.2.1]; exact h5
      obtain ⟨j, hj⟩ := List.getElem?_of_mem ha
      have hjl := lt_of_get hj
      by_cases e : j = m.length - 1
      · rw [e, ht] at hj; cases hj; exact h6
      · have := List.pairwise_iff_getElem.1 q1 j (m.length - 1) (by omega) (by omega) (by omega)
        rw [getElem_of hj, getElem_of ht] at this
        omega
    · by_cases e : j < m.length
      · rw [List.getElem?_append_left e] at hj; exact q4 j z' hj
      · have hjl := lt_of_get hj
        rw [List.length_append, List.length_singleton] at hjl
        obtain rfl : j = m.length := by omega
        rw [List.getElem?_append_right (Nat.le_refl _), Nat.sub_self] at hj
        cases hj
        rw [hmi]; exact hx
    · rcases List.mem_append.1 hz' with h | h
      · exact q5 z' h
      · exact m2 z' h
  · exact absurd h (by decide)
theorem clash_no (h : getA A r = some y) (h4 : y.kind = 4) (hS : ClashS A y d i many) (hi : i < 9) (hr0 : ¬ y.kids.getD i 0 = 0) (hbad : ¬ (i : Int) = many ∨ ¬ (getN A (y.kids.getD i 0)).kind = 3 ∨ (∃ n, MayP A 0 (y.kids.getD i 0) d 1 n ∧ ¬ n = 1) ∨ 0 < i ∧ (getN A (y.kids.getD i 0)).n ≤ (getN A (y.kids.getD (i - 1) 0)).n) : ∀ left l, ¬ MayT A 0 r d left l := by
  intro left l hT
  obtain ⟨m, t1, t2, t3, t4, t5, t6, t7, t8⟩ := hT.clash h h4
  obtain ⟨m', q1, q2, q3, q4, q5, q6⟩ := hS
  have him : i < m.length := Classical.byContradiction fun e => hr0 (t8 i (by omega) hi)
  obtain ⟨x, hx⟩ := getSome him
  have hlx := t6 i x hx
  obtain ⟨g, hg⟩ := hlx.getN
  rcases hbad with hb | hb | ⟨n, hP, hn⟩ | ⟨h0, hb⟩
  · have hz := q6 m'.length (Nat.le_refl _) (by omega)
    obtain ⟨z, hzm⟩ := getSome (l := m) (i := m'.length) (by omega)
    exact (t6 _ z hzm).nz hz
  · rw [hg] at hb; exact hb rfl
  · rcases hP with ⟨l', ⟨m1, _⟩, rfl⟩ | ⟨_, hP⟩
    · have := m1.size
      rw [hlx.size] at this
      exact hn this.symm
    · exact hP [x] ⟨isH_one.2 hlx, fun z hz => by rw [List.mem_singleton.1 hz]; exact t7 x (List.mem_of_getElem? hx), List.pairwise_singleton _ _, by simp⟩
  · obtain ⟨z, hzm⟩ := getSome (l := m) (i := i - 1) (by omega)
    obtain ⟨g2, hg2⟩ := (t6 _ z hzm).getN
    rw [hg, hg2] at hb
    have := List.pairwise_iff_getElem.1 t2 (i - 1) i (by omega) him (by omega)
    rw [getElem_of hzm, getElem_of hx] at this
    simp only [hN] at hb
    omega
theorem clash_end (h : getA A r = some y) (h4 : y.kind = 4) (hb : bareH y = y) (hS : ClashS A y d 9 many) : (¬ (many < 2 ∨ ¬ many = y.s) → many ≤ left → MayP A 0 r d left many) ∧ ((many < 2 ∨ ¬ many = y.s) ∨ left < many → ∀ l, ¬ MayT A 0 r d left l) := by
  obtain ⟨m, q1, q2, q3, q4, q5, q6⟩ := hS
  constructor
  · intro hc hle
    have c1 : ¬ many < 2 := fun e => hc (.inl e)
    have c2 : many = y.s := Decidable.not_not.1 fun e => hc (.inr e)
    refine .inl ⟨m, ⟨(isH_clash (by omega)).2 ⟨y.gen, y.kids.take m.length, m, List.Perm.refl _, q1, q3, ?_, ?_, fun j x hx => ?_⟩, q5, q1.ap, by omega⟩, q2⟩
    · rw [List.length_take]; simp [Node.kids]; omega
    · have := bareH_iff.1 hb
      rw [h4, ← c2, q2] at this
      refine h.trans (congrArg some (kids_ext (ks := y.kids.take m.length) this (fun j hj => ?_)))
      by_cases e : j < m.length
      · rw [List.getD_eq_getElem?_getD, List.getD_eq_getElem?_getD, List.getElem?_take_of_lt e]
      · rw [q6 j (by omega) hj, List.getD_eq_getElem?_getD, List.getElem?_eq_none (by rw [List.length_take]; omega)]; rfl
    · have e := lt_of_get hx
      rw [List.getD_eq_getElem?_getD, List.getElem?_take_of_lt e, ← List.getD_eq_getElem?_getD]
      exact q4 j x hx
  · intro hc l hT
    obtain ⟨m', t1, t2, t3, t4, t5, t6, t7, t8⟩ := hT.clash h h4
    have e1 : m.length = m'.length := by
      rcases Nat.lt_trichotomy m.length m'.length with e | e | e
      · obtain ⟨z, hz⟩ := getSome (l := m') (i := m.length) (by omega)
        exact absurd (q6 m.length (Nat.le_refl _) (by omega)) (t6 _ z hz).nz
      · exact e
      · obtain ⟨z, hz⟩ := getSome (l := m) (i := m'.length) (by omega)
        exact absurd (t8 m'.length (Nat.le_refl _) (by omega)) (q4 _ z hz).nz
    have e2 := t1.length_eq
    have := hT.2.2.2
    omega
end
/-- is a reference a table's? -/
def isTab (A : Ar) (r : Int) : Prop := AOk A ∧ ∃ l, IsH A 10 r l ∧ Ap l ∧ l.length ≤ 200
theorem isTab_iff {A : Ar} {r n : Int} (hA : AOk A) (h : MayP A 10 r 0 200 n) : 0 ≤ n ↔ isTab A r := by
  rcases h with ⟨l, h, rfl⟩ | ⟨rfl, h⟩
  · exact ⟨fun _ => ⟨hA, l, h.1, h.2.2.1, by have := h.2.2.2; omega⟩, fun _ => by omega⟩
  · refine ⟨fun e => absurd e (by decide), fun e => ?_⟩
    obtain ⟨_, l, h1, h2, h3⟩ := e
    exact absurd ⟨h1, fam_0 l, h2, by omega⟩ (h l)
noncomputable def isTabB (A : Ar) (r : Int) : Bool := @decide (isTab A r) (Classical.propDecidable _)
theorem isTabB_iff (A : Ar) (r : Int) : isTabB A r = true ↔ isTab A r := by unfold isTabB; exact @decide_eq_true_iff _ (Classical.propDecidable _)
theorem isTabB_yes {A : Ar} {r : Int} (h : isTab A r) : isTabB A r = true := (isTabB_iff A r).2 h
theorem isTabB_no {A : Ar} {r : Int} (h : ¬ isTab A r) : isTabB A r = false := by rw [Bool.eq_false_iff]; exact fun e => h ((isTabB_iff A r).1 e)
end Go.Proofs.Ytbfjobmebkhblaa
set_option linter.unusedVariables false
set_option linter.unusedSimpArgs false
set_option maxRecDepth 4000
namespace Go.Proofs.Ytbfjobmebkhblaa
open Go Go.XL
/-- what a node of leaves has, by its node -/
theorem clash_node {A : Ar} {r : Int} {L : List It} (h : Clash A r L) (hl : 2 ≤ L.length) : ∃ y m, getA A r = some y ∧ y.kind = 4 ∧ y.s = L.length ∧ List.Perm m L ∧ Srt m ∧ 2 ≤ m.length ∧ m.length ≤ 9 ∧ (∀ i x, m[i]? = some x → lfA A (y.kids.getD i 0) x) ∧ ∀ i, m.length ≤ i → i < 9 → y.kids.getD i 0 = 0 := by
  obtain ⟨g, ks, m, h1, h2, h3, h4, h5, h6⟩ := h
  refine ⟨_, m, h5, rfl, by rw [← h1.length_eq]; rfl, h1, h2, by rw [h1.length_eq]; exact hl, h3, fun i x hx => ?_, fun i hi h9 => ?_⟩
  · have := lt_of_get hx
    rw [hN_kid (by omega)]; exact h6 i x hx
  · rw [hN_kid h9, List.getD_eq_getElem?_getD, List.getElem?_eq_none (by omega)]; rfl
theorem Fam.key {lv : Nat} {key : Int} {L : List It} (h : Fam lv (hashOf key % 4 ^ lv) L) : Fam (lv + 1) (hashOf key % 4 ^ (lv + 1)) (ofL lv (dig key lv) L) := by
  rw [hash_succ]; exact h.of
theorem ofL_len (lv i : Nat) (L : List It) : (ofL lv i L).length ≤ L.length := List.length_filter_le _ _
end Go.Proofs.Ytbfjobmebkhblaa
set_option linter.unusedVariables false
set_option linter.unusedSimpArgs false
namespace Go.Proofs.Ytbfjobmebkhblaa
open Go Go.XL
theorem shl_1 (lv : Nat) (h : lv ≤ 10) : Value.int .i64 (IntKind.i64.wrap (1 * 2 ^ min (Int.toNat ((2 * lv : Nat) : Int)) IntKind.i64.bits)) = .int .i64 ((4 ^ lv : Nat) : Int) := by
  congr 1
  rw [show min (Int.toNat ((2 * lv : Nat) : Int)) IntKind.i64.bits = 2 * lv by simp [IntKind.bits]; omega]
  have h2 : ((2 : Int) ^ (2 * lv)) = ((4 ^ lv : Nat) : Int) := by rw [Int.natCast_pow, Int.pow_mul]; rfl
  have h3 : 4 ^ lv ≤ 1048576 := Nat.pow_le_pow_right (n := 4) (by decide) h
  rw [h2, Int.one_mul]
  generalize 4 ^ lv = q at h3 ⊢
  rw [IntKind.wrap_i64]
  omega
theorem shl_n (n lv : Nat) (hn : n < 4) (h : lv ≤ 10) : Value.int .i64 (IntKind.i64.wrap ((n : Int) * 2 ^ min (Int.toNat ((2 * lv : Nat) : Int)) IntKind.i64.bits)) = .int .i64 ((4 ^ lv * n : Nat) : Int) := by
  congr 1
  rw [show min (Int.toNat ((2 * lv : Nat) : Int)) IntKind.i64.bits = 2 * lv by simp [IntKind.bits]; omega]
  have h2 : ((2 : Int) ^ (2 * lv)) = ((4 ^ lv : Nat) : Int) := by rw [Int.natCast_pow, Int.pow_mul]; rfl
  have h3 : 4 ^ lv ≤ 4 ^ 10 := Nat.pow_le_pow_right (by decide) h
  have h5 : (4 : Nat) ^ 10 = 1048576 := rfl
  have h6 : n * 4 ^ lv ≤ 3 * 1048576 := Nat.mul_le_mul (by omega) (by omega)
  rw [h2, ← Int.natCast_mul, Nat.mul_comm (4 ^ lv) n, IntKind.wrap_i64]
  omega
theorem and_low (n lv : Nat) (h : lv ≤ 10) : Value.int .i64 (IntKind.i64.wrap ((BitVec.ofInt 64 (n : Int) &&& BitVec.ofInt 64 ((4 ^ lv - 1 : Nat) : Int)).toNat : Int)) = .int .i64 ((n % 4 ^ lv : Nat) : Int) := by
  congr 1
  have h3 : 4 ^ lv ≤ 4 ^ 10 := Nat.pow_le_pow_right (by decide) h
  have h4 : 0 < 4 ^ lv := Nat.pow_pos (by decide)
  have h5 : (4 : Nat) ^ 10 = 1048576 := rfl
  have e4 : 4 ^ lv = 2 ^ (2 * lv) := by rw [Nat.pow_mul]
  have h2 : (BitVec.ofInt 64 (n : Int) &&& BitVec.ofInt 64 ((4 ^ lv - 1 : Nat) : Int)).toNat = n % 4 ^ lv := by
    rw [BitVec.toNat_and, BitVec.ofInt_natCast, BitVec.ofInt_natCast, BitVec.toNat_ofNat, BitVec.toNat_ofNat, Nat.mod_eq_of_lt (show 4 ^ lv - 1 < 2 ^ 64 by omega), e4, Nat.and_two_pow_sub_one_eq_mod, ← e4]
    exact Nat.mod_mod_of_dvd n (by rw [e4]; exact Nat.pow_dvd_pow 2 (by omega))
  have h6 : n % 4 ^ lv < 4 ^ lv := Nat.mod_lt _ h4
  rw [h2, IntKind.wrap_i64]
  omega
theorem or_add (d lv n : Nat) (hd : d < 4 ^ lv) (hn : n < 4) (h : lv ≤ 10) : Value.int .i64 (IntKind.i64.wrap ((BitVec.ofInt 64 (d : Int) ||| BitVec.ofInt 64 ((4 ^ lv * n : Nat) : Int)).toNat : Int)) = .int .i64 ((d + 4 ^ lv * n : Nat) : Int) := by
  congr 1
  have h3 : 4 ^ lv ≤ 4 ^ 10 := Nat.pow_le_pow_right (by decide) h
  have h5 : (4 : Nat) ^ 10 = 1048576 := rfl
  have e4 : 4 ^ lv = 2 ^ (2 * lv) := by rw [Nat.pow_mul]
  have h6 : 4 ^ lv * n ≤ 1048576 * 3 := Nat.mul_le_mul (by omega) (by omega)
  have h2 : (BitVec.ofInt 64 (d : Int) ||| BitVec.ofInt 64 ((4 ^ lv * n : Nat) : Int)).toNat = d + 4 ^ lv * n := by
    rw [BitVec.toNat_or, BitVec.ofInt_natCast, BitVec.ofInt_natCast, BitVec.toNat_ofNat, BitVec.toNat_ofNat, Nat.mod_eq_of_lt (show d < 2 ^ 64 by omega), Nat.mod_eq_of_lt (show 4 ^ lv * n < 2 ^ 64 by omega)]
    rw [e4] at hd ⊢
    rw [Nat.mul_comm, ← Nat.shiftLeft_eq, Nat.or_comm, ← Nat.shiftLeft_add_eq_or_of_lt hd, Nat.add_comm]
  rw [h2, IntKind.wrap_i64]
  omega
theorem ne_leaf {y : Node} : (!eqL y.cells (leafH y).cells) = true ↔ ¬ leafH y = y := by
  rw [eqL_cells, Bool.not_eq_true', decide_eq_false_iff_not]
  exact ⟨fun h e => h e.symm, fun h e => h e.symm⟩
theorem ne_bare {y : Node} : (!eqL y.cells (bareH y).cells) = true ↔ ¬ bareH y = y := by
  rw [eqL_cells, Bool.not_eq_true', decide_eq_false_iff_not]
  exact ⟨fun h e => h e.symm, fun h e => h e.symm⟩
/-- what a call of may answers -/
def MayR (P : Int → Prop) (w : World) (v : Value) (w' : World) : Prop := ∃ n, v = .int .i64 n ∧ P n ∧ Sub w w'
set_option maxHeartbeats 1000000 in
theorem c_mayG (bf : Nat) (s : St) (C : Nat → Prop) (k lv : Nat) (hk : k ≤ 10) (hlv : lv = 10 - k) (r : Int) (hr : U64 r) (d : Nat) (left : Int) (h0 : 0 ≤ left) (w : World) (hF : Ft C (Ho bf s C) w)
    (hT : ∀ y, getA s.1 r = some y → y.kind = 2 → bareH y = y → ¬ k = 0 → 0 < left → ∀ w', Sub w w' → FC Try.prog 95 [.pointer (some ⟨bf, 0, none⟩), y.val, .int .i64 (lv : Int), .int .i64 (d : Int), .int .i64 left] w' (MayR (MayP s.1 k r d left) w'))
    (hC : ∀ y, getA s.1 r = some y → y.kind = 4 → bareH y = y → k = 0 → 0 < left → ∀ w', Sub w w' → FC Try.prog 96 [.pointer (some ⟨bf, 0, none⟩), y.val, .int .i64 (d : Int)] w' (MayR (fun n => (n ≤ left → MayP s.1 k r d left n) ∧ (left < n → MayP s.1 k r d left (-1))) w')) :
    FC Try.prog 70 [.pointer (some ⟨bf, 0, none⟩), .int .u64 r, .int .i64 (lv : Int), .int .i64 (d : Int), .int .i64 left] w (MayR (MayP s.1 k r d left) w) := by
  obtain ⟨hCb, na, fa, nc, fc, M, hbf, hnc, hfc, hA, hMb, hMC⟩ := hF.now
  obtain ⟨y, e, hgv, hgs, hgn⟩ := getV_form2 s.1 r
  have hA := hA.now
  refine FC.intro Try.func70 rfl Try.ntmps70 rfl ?_
  have S := Sub.refl w
  refine RC.seq ?_
  refine RC.region rfl ?_
  refine RL.ev (.assign rfl) rfl rfl ?_
  refine RL.nil (RC.back ?_)
  refine RC.seq ?_
  refine RC.seq ?_
  refine RC.region rfl ?_
  refine RL.ev (.move rfl) rfl rfl ?_
  refine RL.ev (.bin rfl rfl rfl) rfl rfl ?_
  refine RL.nil (RC.back ?_)
  refine RC.cond_dec rfl (fun h1 => ?_) (fun h1 => ?_)
  ·
    have hres : MayP s.1 k r d left 0 := (by rw [h1]; exact mayP_0 h0)
    refine RC.seq ?_
    refine RC.region rfl ?_
    refine RL.ev (.assign rfl) rfl rfl ?_
    refine RL.nil (RC.back ?_)
    refine RC.done (rs := [.tmp 10]) (vs := [_]) rfl rfl ⟨rfl, trivial⟩ ?_
    -- end 1
    exact ⟨_, rfl, hres, S⟩
  ·
    have hr0 := h1
    refine RC.skip (RC.back ?_)
    refine RC.seq ?_
    refine RC.region rfl ?_
    refine RL.ev (.move rfl) rfl rfl ?_
    refine RL.ev (.nilCheck rfl) rfl rfl ?_
    refine RL.ev (.field0 fo108_0 rfl) rfl rfl ?_
    refine RL.ev (.loadR (wvA na fa nc fc s.1) sh34 rfl (row_pref (xs := wvA na fa nc fc s.1) (ys := [.int .i64 s.2]) hbf) rfl) rfl rfl ?_
    refine RL.ev (.move rfl) rfl rfl ?_
    refine RL.call rfl ok94 (c_aGet s.1 na fa nc fc r hr w (hA.sub S)) rfl rfl ?_
    rintro _ w2 ⟨rfl, s3⟩
    have S := S.trans s3
    have hbf := hbf.sub s3
    refine RL.ev (.as (v' := .tuple #[y.val, .int .i64 e]) (.move rfl) (by rw [hgv])) rfl rfl ?_
    refine RL.ev (.extract rfl rfl) rfl rfl ?_
    refine RL.ev (.extract rfl rfl) rfl rfl ?_
    refine RL.alloc ze97 rfl rfl (fun b_11 w_11 e_11 z_11 hb_11 s_11 => ?_)
    have ge_11 := S.le e_11
    have nf__11 := hbf.ne e_11
    have S := S.trans s_11
    have hbf := hbf.sub s_11
    refine RL.store sh97 rfl rfl rfl hb_11 (by exact Nat.le_of_ble_eq_true rfl) (by rfl) rfl (fun w4 z4 hb_11 a4 => ?_)
    have S := S.upd a4 ge_11
    have hbf := hbf.upd a4 nf__11
    have hb_11 : Has w4 b_11 (y.cells) _ := hb_11.now (by kernel_rfl)
    refine RL.ev (.assign rfl) rfl rfl ?_
    refine RL.nil (RC.back ?_)
    refine RC.seq ?_
    refine RC.seq ?_
    refine RC.region rfl ?_
    refine RL.ev (.move rfl) rfl rfl ?_
    refine RL.ev (.bin rfl rfl rfl) rfl rfl ?_
    refine RL.ev (.move rfl) rfl rfl ?_
    refine RL.split 28 rfl (fun h5 => ?_) (fun h5 => ?_)
    ·
      have hres : MayP s.1 k r d left (-1) := mayP_bad hr0 (.inl (by cases hg : getA s.1 r with | none => rfl | some x => exact absurd (hgs x hg).2 h5))
      refine RL.off rfl rfl ?_
      refine RL.off rfl rfl ?_
      refine RL.ev (.pick_t rfl rfl) rfl rfl ?_
      refine RL.nil (RC.back ?_)
      refine RC.cond_t rfl ?_
      refine RC.seq ?_
      refine RC.region rfl ?_
      refine RL.ev (.assign rfl) rfl rfl ?_
      refine RL.nil (RC.back ?_)
      refine RC.done (rs := [.tmp 10]) (vs := [_]) rfl rfl ⟨rfl, trivial⟩ ?_
      -- end 2
      exact ⟨_, rfl, hres, S⟩
    ·
      have hy : getA s.1 r = some y := (by cases hg : getA s.1 r with | none => have := (hgn hg).2; omega | some x => rw [(hgs x hg).1])
      refine RL.ev (.move rfl) rfl rfl ?_
      refine RL.ev (.bin rfl rfl rfl) rfl rfl ?_
      refine RL.ev (.pick_f rfl rfl) rfl rfl ?_
      refine RL.nil (RC.back ?_)
      refine RC.cond_dec rfl (fun h6 => ?_) (fun h6 => ?_)
      ·
        have hres : MayP s.1 k r d left (-1) := mayP_bad hr0 (.inr h6)
        refine RC.seq ?_
        refine RC.region rfl ?_
        refine RL.ev (.assign rfl) rfl rfl ?_
        refine RL.nil (RC.back ?_)
        refine RC.done (rs := [.tmp 10]) (vs := [_]) rfl rfl ⟨rfl, trivial⟩ ?_
        -- end 3
        exact ⟨_, rfl, hres, S⟩
      ·
        have hl0 : 0 < left := (by omega)
        refine RC.skip (RC.back ?_)
        refine RC.seq ?_
        refine RC.region rfl ?_
        refine RL.ev (.field0 fo97_0 rfl) rfl rfl ?_
        refine RL.ev (.load1 sh3 rfl (hb_11.cell rfl)) rfl rfl ?_
        refine RL.ev (.field0 fo97_1 rfl) rfl rfl ?_
        refine RL.ev (.load1 sh3 rfl (hb_11.cell rfl)) rfl rfl ?_
        refine RL.ev (.field0 fo97_5 rfl) rfl rfl ?_
        refine RL.ev (.as (v' := .agg (y.kids.map u6).toArray) (.loadR (y.kids.map u6) sh95 rfl (Has.row_at (pre := [i6 y.kind, i6 y.gen, i6 y.n, i6 y.v, i6 y.s]) (mid := y.kids.map u6) (post := [i6 y.pre, i6 y.suf]) hb_11 rfl) rfl) (by rfl)) rfl rfl ?_
        refine RL.ev (.field0 fo97_4 rfl) rfl rfl ?_
        refine RL.ev (.load1 sh2 rfl (hb_11.cell rfl)) rfl rfl ?_
        refine RL.ev (.buildS (vs := [(0, i6 y.kind), (1, i6 y.gen), (5, .agg (y.kids.map u6).toArray), (4, i6 y.s)]) (cs := (bareH y).cells.toArray) ze97 pl97 rfl (by kernel_rfl)) rfl rfl ?_
        refine RL.alloc ze97 rfl rfl (fun b_13 w_13 e_13 z_13 hb_13 s_13 => ?_)
        have ge_13 := S.le e_13
        have nf__13 := hbf.ne e_13
        have n_11__13 := hb_11.ne e_13
        have S := S.trans s_13
        have hbf := hbf.sub s_13
        have hb_11 := hb_11.sub s_13
        refine RL.store sh97 rfl rfl rfl hb_13 (by exact Nat.le_of_ble_eq_true rfl) (by rfl) rfl (fun w7 z7 hb_13 a7 => ?_)
        have S := S.upd a7 ge_13
        have hbf := hbf.upd a7 nf__13
        have hb_11 := hb_11.upd a7 n_11__13
        have hb_13 : Has w7 b_13 ((bareH y).cells) _ := hb_13.now (by kernel_rfl)
        refine RL.nil (RC.back ?_)
        refine RC.seq ?_
        refine RC.seq ?_
        refine RC.region rfl ?_
        refine RL.ev (.field0 fo97_0 rfl) rfl rfl ?_
        refine RL.ev (.load1 sh3 rfl (hb_11.cell rfl)) rfl rfl ?_
        refine RL.nil (RC.back ?_)
        refine RC.block ?_
        refine RC.seq ?_
        refine RC.region rfl ?_
        refine RL.ev (.bin rfl rfl rfl) rfl rfl ?_
        refine RL.ev (.assign rfl) rfl rfl ?_
        refine RL.nil (RC.back ?_)
        refine RC.cond_dec rfl (fun h8 => ?_) (fun h8 => ?_)
        ·
          have h3 := h8
          refine RC.seq ?_
          refine RC.region rfl ?_
          refine RL.ev (.field0 fo97_0 rfl) rfl rfl ?_
          refine RL.ev (.load1 sh3 rfl (hb_11.cell rfl)) rfl rfl ?_
          refine RL.ev (.field0 fo97_1 rfl) rfl rfl ?_
          refine RL.ev (.load1 sh3 rfl (hb_11.cell rfl)) rfl rfl ?_
          refine RL.ev (.field0 fo97_2 rfl) rfl rfl ?_
          refine RL.ev (.load1 sh2 rfl (hb_11.cell rfl)) rfl rfl ?_
          refine RL.ev (.field0 fo97_3 rfl) rfl rfl ?_
          refine RL.ev (.load1 sh2 rfl (hb_11.cell rfl)) rfl rfl ?_
          refine RL.ev (.buildS ze97 pl97 rfl rfl) rfl rfl ?_
          refine RL.store sh97 rfl rfl rfl hb_13 (by exact Nat.le_of_ble_eq_true rfl) (by rfl) rfl (fun w9 z9 hb_13 a9 => ?_)
          have S := S.upd a9 ge_13
          have hbf := hbf.upd a9 nf__13
          have hb_11 := hb_11.upd a9 n_11__13
          have hb_13 : Has w9 b_13 ((leafH y).cells) _ := hb_13.now (by kernel_rfl)
          refine RL.nil (RC.back ?_)
          refine RC.seq ?_
          refine RC.seq ?_
          refine RC.draw rfl mxo (by kernel_rfl) ?_
          refine RQ.ev (.loadR (y.cells) sh97 rfl hb_11.row rfl) rfl rfl ?_
          refine RQ.ev (.loadR ((leafH y).cells) sh97 rfl hb_13.row rfl) rfl rfl ?_
          refine RQ.ev (.neS (xs := y.cells) (ys := (leafH y).cells) fk97 eg97 sh97 rfl rfl rfl rfl rfl) rfl rfl ?_
          refine RQ.ev (.move rfl) rfl rfl ?_
          refine RQ.splitB 57 rfl (fun h10 => ?_) (fun h10 => ?_)
          ·
            have hres : MayP s.1 k r d left (-1) := (mayP_leaf (k := k) (d := d) hr0 hy h3 hl0).2 (fun q => ne_leaf.1 h10 q.1)
            refine RQ.off rfl rfl ?_
            refine RQ.off rfl rfl ?_
            refine RQ.off rfl rfl ?_
            refine RQ.off rfl rfl ?_
            refine RQ.off rfl rfl ?_
            refine RQ.off rfl rfl ?_
            refine RQ.off rfl rfl ?_
            refine RQ.off rfl rfl ?_
            refine RQ.off rfl rfl ?_
            refine RQ.off rfl rfl ?_
            refine RQ.ev (.pick_t rfl rfl) rfl rfl ?_
            refine RQ.nil (fun w11 s12 => RC.back ?_)
            have S := S.trans s12
            have hbf := hbf.sub s12
            have hb_11 := hb_11.sub s12
            have hb_13 := hb_13.sub s12
            refine RC.cond_t rfl ?_
            refine RC.seq ?_
            refine RC.region rfl ?_
            refine RL.ev (.assign rfl) rfl rfl ?_
            refine RL.nil (RC.back ?_)
            refine RC.done (rs := [.tmp 10]) (vs := [_]) rfl rfl ⟨rfl, trivial⟩ ?_
            -- end 4
            exact ⟨_, rfl, hres, S⟩
          ·
            have hlf : leafH y = y := Decidable.not_not.1 (fun q => by have h2 := h10; rw [ne_leaf.2 q] at h2; cases h2)
            refine RQ.ev (.field0 fo97_2 rfl) rfl rfl ?_
            refine RQ.ev (.load1 sh2 rfl (hb_11.cell rfl)) rfl rfl ?_
            refine RQ.call rfl ok43 (fun w' s' => c_hash y.n w') rfl rfl ?_
            refine RQ.ev (.move rfl) rfl rfl ?_
            refine RQ.ev (.as (.bin rfl rfl rfl) (wi64 (y := ((2 * lv : Nat) : Int)) (by omega) (by omega))) rfl rfl ?_
            refine RQ.ev (.as (v' := .int .i64 ((4 ^ lv : Nat) : Int)) (.shl rfl rfl (by omega)) (by exact shl_1 lv (by omega))) rfl rfl ?_
            refine RQ.ev (.as (v' := .int .i64 ((4 ^ lv - 1 : Nat) : Int)) (.bin rfl rfl rfl) (by have h3 : 4 ^ lv ≤ 4 ^ 10 := Nat.pow_le_pow_right (by decide) (by omega); have h4 : 0 < 4 ^ lv := Nat.pow_pos (by decide); have h5 : (4 : Nat) ^ 10 = 1048576 := rfl; congr 1; rw [IntKind.wrap_i64]; omega)) rfl rfl ?_
            refine RQ.ev (.as (v' := .int .i64 ((hashOf y.n % 4 ^ lv : Nat) : Int)) (.bin rfl rfl rfl) (by exact and_low _ lv (by omega))) rfl rfl ?_
            refine RQ.ev (.move rfl) rfl rfl ?_
            refine RQ.ev (.bin rfl rfl rfl) rfl rfl ?_
            refine RQ.ev (.pick_f rfl rfl) rfl rfl ?_
            refine RQ.nil (fun w13 s14 => RC.back ?_)
            have S := S.trans s14
            have hbf := hbf.sub s14
            have hb_11 := hb_11.sub s14
            have hb_13 := hb_13.sub s14
            refine RC.cond_dec rfl (fun h15 => ?_) (fun h15 => ?_)
            ·
              have hres : MayP s.1 k r d left (-1) := (mayP_leaf (k := k) (d := d) hr0 hy h3 hl0).2 (fun q => by have h2 := q.2; rw [← hlv] at h2; rw [h2] at h15; exact h15 rfl)
              refine RC.seq ?_
              refine RC.region rfl ?_
              refine RL.ev (.assign rfl) rfl rfl ?_
              refine RL.nil (RC.back ?_)
              refine RC.done (rs := [.tmp 10]) (vs := [_]) rfl rfl ⟨rfl, trivial⟩ ?_
              -- end 5
              exact ⟨_, rfl, hres, S⟩
            ·
              have hres : MayP s.1 k r d left 1 := (mayP_leaf (k := k) (d := d) hr0 hy h3 hl0).1 ⟨hlf, by rw [← hlv]; omega⟩
              refine RC.skip (RC.back ?_)
              refine RC.seq ?_
              refine RC.region rfl ?_
              refine RL.ev (.assign rfl) rfl rfl ?_
              refine RL.nil (RC.back ?_)
              refine RC.done (rs := [.tmp 10]) (vs := [_]) rfl rfl ⟨rfl, trivial⟩ ?_
              -- end 6
              exact ⟨_, rfl, hres, S⟩
        ·
          have h3 := h8
          refine RC.seq ?_
          refine RC.region rfl ?_
          refine RL.ev (.bin rfl rfl rfl) rfl rfl ?_
          refine RL.ev (.assign rfl) rfl rfl ?_
          refine RL.nil (RC.back ?_)
          refine RC.cond_dec rfl (fun h16 => ?_) (fun h16 => ?_)
          ·
            have h2 := h16
            refine RC.seq ?_
            refine RC.seq ?_
            refine RC.region rfl ?_
            refine RL.ev (.move rfl) rfl rfl ?_
            refine RL.ev (.bin rfl rfl rfl) rfl rfl ?_
            refine RL.ev (.move rfl) rfl rfl ?_
            refine RL.split 73 rfl (fun h17 => ?_) (fun h17 => ?_)
            ·
              have hres : MayP s.1 k r d left (-1) := mayP_odd hr0 hy h3 (.inr (.inl ⟨h2, by have := h17; omega⟩))
              refine RL.off rfl rfl ?_
              refine RL.off rfl rfl ?_
              refine RL.off rfl rfl ?_
              refine RL.ev (.pick_t rfl rfl) rfl rfl ?_
              refine RL.nil (RC.back ?_)
              refine RC.cond_t rfl ?_
              refine RC.seq ?_
              refine RC.region rfl ?_
              refine RL.ev (.assign rfl) rfl rfl ?_
              refine RL.nil (RC.back ?_)
              refine RC.done (rs := [.tmp 10]) (vs := [_]) rfl rfl ⟨rfl, trivial⟩ ?_
              -- end 7
              exact ⟨_, rfl, hres, S⟩
            ·
              have hk0 : ¬ k = 0 := (by have := h17; omega)
              refine RL.ev (.loadR (y.cells) sh97 rfl hb_11.row rfl) rfl rfl ?_
              refine RL.ev (.loadR ((bareH y).cells) sh97 rfl hb_13.row rfl) rfl rfl ?_
              refine RL.ev (.neS (xs := y.cells) (ys := (bareH y).cells) fk97 eg97 sh97 rfl rfl rfl rfl rfl) rfl rfl ?_
              refine RL.ev (.pick_f rfl rfl) rfl rfl ?_
              refine RL.nil (RC.back ?_)
              refine RC.cond rfl (fun h18 => ?_) (fun h18 => ?_)
              ·
                have hres : MayP s.1 k r d left (-1) := mayP_odd hr0 hy h3 (.inl (ne_bare.1 h18))
                refine RC.seq ?_
                refine RC.region rfl ?_
                refine RL.ev (.assign rfl) rfl rfl ?_
                refine RL.nil (RC.back ?_)
                refine RC.done (rs := [.tmp 10]) (vs := [_]) rfl rfl ⟨rfl, trivial⟩ ?_
                -- end 8
                exact ⟨_, rfl, hres, S⟩
              ·
                have hbr : bareH y = y := Decidable.not_not.1 (fun q => by have h2 := h18; rw [ne_bare.2 q] at h2; cases h2)
                refine RC.skip (RC.back ?_)
                refine RC.seq ?_
                refine RC.region rfl ?_
                refine RL.ev (.move rfl) rfl rfl ?_
                refine RL.ev (.loadR (y.cells) sh97 rfl (hb_11.row) rfl) rfl rfl ?_
                refine RL.ev (.move rfl) rfl rfl ?_
                refine RL.ev (.move rfl) rfl rfl ?_
                refine RL.ev (.move rfl) rfl rfl ?_
                refine RL.call rfl ok95 (hT y hy h2 hbr hk0 hl0 w7 S) rfl rfl ?_
                rintro _ w19 ⟨n, rfl, hres, s20⟩
                have S := S.trans s20
                have hbf := hbf.sub s20
                have hb_11 := hb_11.sub s20
                have hb_13 := hb_13.sub s20
                refine RL.ev (.assign rfl) rfl rfl ?_
                refine RL.nil (RC.back ?_)
                refine RC.done (rs := [.tmp 10]) (vs := [_]) rfl rfl ⟨rfl, trivial⟩ ?_
                -- end 9
                exact ⟨_, rfl, hres, S⟩
          ·
            have h2 := h16
            refine RC.seq ?_
            refine RC.region rfl ?_
            refine RL.ev (.bin rfl rfl rfl) rfl rfl ?_
            refine RL.ev (.assign rfl) rfl rfl ?_
            refine RL.nil (RC.back ?_)
            refine RC.cond_dec rfl (fun h21 => ?_) (fun h21 => ?_)
            ·
              have h4 := h21
              refine RC.seq ?_
              refine RC.seq ?_
              refine RC.region rfl ?_
              refine RL.ev (.move rfl) rfl rfl ?_
              refine RL.ev (.bin rfl rfl rfl) rfl rfl ?_
              refine RL.ev (.move rfl) rfl rfl ?_
              refine RL.split 88 rfl (fun h22 => ?_) (fun h22 => ?_)
              ·
                have hres : MayP s.1 k r d left (-1) := mayP_odd hr0 hy h3 (.inr (.inr (.inl ⟨h4, by have := h22; omega⟩)))
                refine RL.off rfl rfl ?_
                refine RL.off rfl rfl ?_
                refine RL.off rfl rfl ?_
                refine RL.ev (.pick_t rfl rfl) rfl rfl ?_
                refine RL.nil (RC.back ?_)
                refine RC.cond_t rfl ?_
                refine RC.seq ?_
                refine RC.region rfl ?_
                refine RL.ev (.assign rfl) rfl rfl ?_
                refine RL.nil (RC.back ?_)
                refine RC.done (rs := [.tmp 10]) (vs := [_]) rfl rfl ⟨rfl, trivial⟩ ?_
                -- end 10
                exact ⟨_, rfl, hres, S⟩
              ·
                have hk0 : k = 0 := (by have := h22; omega)
                refine RL.ev (.loadR (y.cells) sh97 rfl hb_11.row rfl) rfl rfl ?_
                refine RL.ev (.loadR ((bareH y).cells) sh97 rfl hb_13.row rfl) rfl rfl ?_
                refine RL.ev (.neS (xs := y.cells) (ys := (bareH y).cells) fk97 eg97 sh97 rfl rfl rfl rfl rfl) rfl rfl ?_
                refine RL.ev (.pick_f rfl rfl) rfl rfl ?_
                refine RL.nil (RC.back ?_)
                refine RC.cond rfl (fun h23 => ?_) (fun h23 => ?_)
                ·
                  have hres : MayP s.1 k r d left (-1) := mayP_odd hr0 hy h3 (.inl (ne_bare.1 h23))
                  refine RC.seq ?_
                  refine RC.region rfl ?_
                  refine RL.ev (.assign rfl) rfl rfl ?_
                  refine RL.nil (RC.back ?_)
                  refine RC.done (rs := [.tmp 10]) (vs := [_]) rfl rfl ⟨rfl, trivial⟩ ?_
                  -- end 11
                  exact ⟨_, rfl, hres, S⟩
                ·
                  have hbr : bareH y = y := Decidable.not_not.1 (fun q => by have h2 := h23; rw [ne_bare.2 q] at h2; cases h2)
                  refine RC.skip (RC.back ?_)
                  refine RC.seq ?_
                  refine RC.region rfl ?_
                  refine RL.ev (.move rfl) rfl rfl ?_
                  refine RL.ev (.loadR (y.cells) sh97 rfl (hb_11.row) rfl) rfl rfl ?_
                  refine RL.ev (.move rfl) rfl rfl ?_
                  refine RL.call rfl ok96 (hC y hy h4 hbr hk0 hl0 w7 S) rfl rfl ?_
                  rintro _ w24 ⟨n, rfl, hres2, s25⟩
                  have S := S.trans s25
                  have hbf := hbf.sub s25
                  have hb_11 := hb_11.sub s25
                  have hb_13 := hb_13.sub s25
                  refine RL.ev (.assign rfl) rfl rfl ?_
                  refine RL.nil (RC.back ?_)
                  refine RC.seq ?_
                  refine RC.region rfl ?_
                  refine RL.ev (.move rfl) rfl rfl ?_
                  refine RL.ev (.move rfl) rfl rfl ?_
                  refine RL.ev (.bin rfl rfl rfl) rfl rfl ?_
                  refine RL.nil (RC.back ?_)
                  refine RC.cond_dec rfl (fun h26 => ?_) (fun h26 => ?_)
                  ·
                    have hres : MayP s.1 k r d left n := hres2.1 h26
                    refine RC.seq ?_
                    refine RC.region rfl ?_
                    refine RL.ev (.move rfl) rfl rfl ?_
                    refine RL.ev (.assign rfl) rfl rfl ?_
                    refine RL.nil (RC.back ?_)
                    refine RC.done (rs := [.tmp 10]) (vs := [_]) rfl rfl ⟨rfl, trivial⟩ ?_
                    -- end 12
                    exact ⟨_, rfl, hres, S⟩
                  ·
                    have hres : MayP s.1 k r d left (-1) := hres2.2 (by have := h26; omega)
                    refine RC.skip (RC.back ?_)
                    refine RC.seq ?_
                    refine RC.region rfl ?_
                    refine RL.ev (.assign rfl) rfl rfl ?_
                    refine RL.nil (RC.back ?_)
                    refine RC.done (rs := [.tmp 10]) (vs := [_]) rfl rfl ⟨rfl, trivial⟩ ?_
                    -- end 13
                    exact ⟨_, rfl, hres, S⟩
            ·
              have h4 := h21
              have hres : MayP s.1 k r d left (-1) := mayP_odd hr0 hy h3 (.inr (.inr (.inr ⟨h2, h4⟩)))
              refine RC.skip (RC.back ?_)
              refine RC.seq ?_
              refine RC.region rfl ?_
              refine RL.ev (.assign rfl) rfl rfl ?_
              refine RL.nil (RC.back ?_)
              refine RC.done (rs := [.tmp 10]) (vs := [_]) rfl rfl ⟨rfl, trivial⟩ ?_
              -- end 14
              exact ⟨_, rfl, hres, S⟩
end Go.Proofs.Ytbfjobmebkhblaa
set_option linter.unusedVariables false
set_option linter.unusedSimpArgs false
namespace Go.Proofs.Ytbfjobmebkhblaa
open Go Go.XL
theorem dig_bound {d q m : Nat} (hd : d < q) (hm : m < 4) : d + q * m < q * 4 := by
  have : q * m ≤ q * 3 := Nat.mul_le_mul_left q (by omega)
  omega
theorem kid_get {y : Node} {i : Nat} {x : Int} (h : y.kids[i]? = some x) : y.kids.getD i 0 = x := by rw [List.getD_eq_getElem?_getD, h]; rfl
set_option maxHeartbeats 1000000 in
theorem c_trie (bf : Nat) (s : St) (C : Nat → Prop) (k lv : Nat) (hk : k ≤ 9) (hlv : lv = 9 - k) (r : Int) (y : Node) (hy : getA s.1 r = some y) (hyo : y.ok) (hy2 : y.kind = 2) (hyb : bareH y = y) (d : Nat) (hd : d < 4 ^ lv) (left : Int) (h0 : 0 ≤ left) (hl : left ≤ 1000000)
    (ih : ∀ (r' : Int) (d' : Nat) (left' : Int) (w' : World), U64 r' → d' < 4 ^ (lv + 1) → 0 ≤ left' → left' ≤ 1000000 → Ft C (Ho bf s C) w' → FC Try.prog 70 [.pointer (some ⟨bf, 0, none⟩), .int .u64 r', .int .i64 ((lv + 1 : Nat) : Int), .int .i64 (d' : Int), .int .i64 left'] w' (MayR (MayP s.1 k r' d' left') w'))
    (w : World) (hF : Ft C (Ho bf s C) w) :
    FC Try.prog 95 [.pointer (some ⟨bf, 0, none⟩), y.val, .int .i64 (lv : Int), .int .i64 (d : Int), .int .i64 left] w (MayR (MayP s.1 (k + 1) r d left) w) := by
  have hG : Ft C (Ho bf s C) w := hF
  refine FC.intro Try.func95 rfl Try.ntmps95 rfl ?_
  have S := Sub.refl w
  refine RC.seq ?_
  refine RC.region rfl ?_
  refine RL.box rfl rfl rfl (fun b_6 w_6 e_6 z_6 hb_6 s_6 => ?_)
  have ge_6 := S.le e_6
  have S := S.trans s_6
  have hb_6 : Has w_6 b_6 (y.cells) _ := hb_6
  refine RL.ev (.assign rfl) rfl rfl ?_
  refine RL.nil (RC.back ?_)
  refine RC.seq ?_
  refine RC.region rfl ?_
  refine RL.ev (.assign rfl) rfl rfl ?_
  refine RL.nil (RC.back ?_)
  refine RC.seq ?_
  refine RC.seq ?_
  refine RC.region rfl ?_
  refine RL.ev (.field0 fo97_5 rfl) rfl rfl ?_
  refine RL.ev (.as (v' := .agg (y.kids.map u6).toArray) (.loadR (y.kids.map u6) sh95 rfl (Has.row_at (pre := [i6 y.kind, i6 y.gen, i6 y.n, i6 y.v, i6 y.s]) (mid := y.kids.map u6) (post := [i6 y.pre, i6 y.suf]) hb_6 rfl) rfl) (by rfl)) rfl rfl ?_
  refine RL.ev (.move rfl) rfl rfl ?_
  refine RL.nil (RC.back ?_)
  refine RC.block ?_
  refine RC.loop (α := Nat × Int) (fun x => [(0, .pointer (some ⟨bf, 0, none⟩)), (2, .int .i64 (lv : Int)), (3, .int .i64 (d : Int)), (4, .int .i64 left), (6, .pointer (some ⟨b_6, 0, none⟩)), (11, .int .i64 x.2), (16, .agg (y.kids.map u6).toArray), (17, .int .i64 (x.1 : Int))]) (fun x w1 => x.1 ≤ 9 ∧ TrieS s.1 k y d left x.1 x.2 ∧ Has w1 b_6 y.cells 97 ∧ Sub w w1) (fun x => 9 - x.1) (0, 0) (keep_of (by repeat (first | exact trivial | refine And.intro rfl ?_))) (⟨Nat.zero_le _, trie_start h0, hb_6, S⟩) (fun x w1 hJ => ?_)
  obtain ⟨i, sum⟩ := x; obtain ⟨hi, hS, hb_6, S⟩ := hJ; simp only [] at hi hS; have hsr : 0 ≤ sum ∧ sum ≤ left := (by obtain ⟨l, _, _, _, _, _, q6, q7⟩ := hS; exact ⟨by omega, q7⟩)
  refine RC.seq ?_
  refine RC.region rfl ?_
  refine RL.ev (.bin rfl rfl rfl) rfl rfl ?_
  refine RL.nil (RC.back ?_)
  refine RC.seq ?_
  refine RC.cond_dec rfl (fun h2 => ?_) (fun h2 => ?_)
  ·
    obtain ⟨x, hx⟩ := getSome (l := y.kids) (i := i) (by show i < 9; omega)
    have hkx := kid_get hx
    refine RC.skip (RC.back ?_)
    refine RC.seq ?_
    refine RC.block ?_
    refine RC.seq ?_
    refine RC.region rfl ?_
    refine RL.ev (.move rfl) rfl rfl ?_
    refine RL.ev (.index1 ar95 sh36 rfl rfl (by omega) ((by simp [hx] : (y.kids.map u6).toArray[(i : Int).toNat * 1]? = some (u6 x)))) rfl rfl ?_
    refine RL.ev (.assign rfl) rfl rfl ?_
    refine RL.ev (.assign rfl) rfl rfl ?_
    refine RL.nil (RC.back ?_)
    refine RC.seq ?_
    refine RC.seq ?_
    refine RC.region rfl ?_
    refine RL.ev (.move rfl) rfl rfl ?_
    refine RL.ev (.bin rfl rfl rfl) rfl rfl ?_
    refine RL.ev (.move rfl) rfl rfl ?_
    refine RL.split 23 rfl (fun h3 => ?_) (fun h3 => ?_)
    ·
      have h23 := h3
      refine RL.ev (.move rfl) rfl rfl ?_
      refine RL.ev (.bin rfl rfl rfl) rfl rfl ?_
      refine RL.ev (.pick_t rfl rfl) rfl rfl ?_
      refine RL.nil (RC.back ?_)
      refine RC.cond_dec rfl (fun h4 => ?_) (fun h4 => ?_)
      ·
        have hres : MayP s.1 (k + 1) r d left (-1) := trie_no hk hy hy2 hS (by omega) (.inl ⟨by omega, by rw [hkx]; exact h4⟩)
        refine RC.seq ?_
        refine RC.region rfl ?_
        refine RL.ev (.assign rfl) rfl rfl ?_
        refine RL.nil (RC.back ?_)
        refine RC.done (rs := [.tmp 10]) (vs := [_]) rfl rfl ⟨rfl, trivial⟩ ?_
        -- end 1
        exact ⟨_, rfl, hres, S⟩
      ·
        have h26 : x = 0 := Decidable.not_not.1 h4
        refine RC.skip (RC.back ?_)
        refine RC.seq ?_
        refine RC.region rfl ?_
        refine RL.ev (.move rfl) rfl rfl ?_
        refine RL.ev (.move rfl) rfl rfl ?_
        refine RL.ev (.move rfl) rfl rfl ?_
        refine RL.ev (.as (.bin rfl rfl rfl) (wi64 (y := ((lv + 1 : Nat) : Int)) (by omega) (by omega))) rfl rfl ?_
        refine RL.ev (.move rfl) rfl rfl ?_
        refine RL.ev (.move rfl) rfl rfl ?_
        refine RL.ev (.as (v' := .int .i64 ((i % 4 : Nat) : Int)) (.rem rfl rfl (by decide)) (by congr 1)) rfl rfl ?_
        refine RL.ev (.move rfl) rfl rfl ?_
        refine RL.ev (.as (.bin rfl rfl rfl) (wi64 (y := ((2 * lv : Nat) : Int)) (by omega) (by omega))) rfl rfl ?_
        refine RL.ev (.as (v' := .int .i64 ((4 ^ lv * (i % 4) : Nat) : Int)) (.shl rfl rfl (by omega)) (by exact shl_n _ lv (Nat.mod_lt _ (by decide)) (by omega))) rfl rfl ?_
        refine RL.ev (.as (v' := .int .i64 ((d + 4 ^ lv * (i % 4) : Nat) : Int)) (.bin rfl rfl rfl) (by exact or_add d lv _ hd (Nat.mod_lt _ (by decide)) (by omega))) rfl rfl ?_
        refine RL.ev (.move rfl) rfl rfl ?_
        refine RL.ev (.move rfl) rfl rfl ?_
        refine RL.ev (.as (.bin rfl rfl rfl) (wi64 (y := left - sum) (by rfl) (by omega))) rfl rfl ?_
        refine RL.call rfl ok70 (ih x (d + 4 ^ lv * (i % 4)) (left - sum) w1 (hyo.kids x (List.mem_of_getElem? hx)) (by rw [Nat.pow_succ]; exact dig_bound hd (Nat.mod_lt _ (by decide))) (by omega) (by omega) (hG.sub S)) rfl rfl ?_
        rintro _ w5 ⟨n, rfl, hP, s6⟩
        have S := S.trans s6
        have hb_6 := hb_6.sub s6
        have hPr := hP.rng (by omega)
        rw [hlv] at hP
        refine RL.ev (.assign rfl) rfl rfl ?_
        refine RL.nil (RC.back ?_)
        refine RC.seq ?_
        refine RC.seq ?_
        refine RC.region rfl ?_
        refine RL.ev (.move rfl) rfl rfl ?_
        refine RL.ev (.bin rfl rfl rfl) rfl rfl ?_
        refine RL.nil (RC.back ?_)
        refine RC.cond_dec rfl (fun h7 => ?_) (fun h7 => ?_)
        ·
          have hres : MayP s.1 (k + 1) r d left (-1) := trie_no hk hy hy2 hS (by omega) (.inr ⟨n, by rw [hkx]; exact hP, h7⟩)
          refine RC.seq ?_
          refine RC.region rfl ?_
          refine RL.ev (.assign rfl) rfl rfl ?_
          refine RL.nil (RC.back ?_)
          refine RC.done (rs := [.tmp 10]) (vs := [_]) rfl rfl ⟨rfl, trivial⟩ ?_
          -- end 2
          exact ⟨_, rfl, hres, S⟩
        ·
          have hn0 : 0 ≤ n := (by omega)
          refine RC.skip (RC.back ?_)
          refine RC.region rfl ?_
          refine RL.ev (.move rfl) rfl rfl ?_
          refine RL.ev (.move rfl) rfl rfl ?_
          refine RL.ev (.as (.bin rfl rfl rfl) (wi64 (y := sum + n) (by rfl) (by omega))) rfl rfl ?_
          refine RL.ev (.assign rfl) rfl rfl ?_
          refine RL.nil (RC.back ?_)
          refine RC.region rfl ?_
          refine RL.ev (.as (.bin rfl rfl rfl) (wi64 (y := ((i + 1 : Nat) : Int)) (by omega) (by omega))) rfl rfl ?_
          refine RL.ev (.move rfl) rfl rfl ?_
          exact RL.nil (fun a ka => ⟨(i + 1, sum + n), ⟨by omega, trie_step hk (hlv ▸ hd) hS (by omega) (fun h => by rw [hkx]; first | exact h26 | omega) (by rw [hkx]; exact hP) hn0, hb_6, S⟩, by omega, ka.keep (keep_of (by repeat (first | exact trivial | refine And.intro rfl ?_)))⟩)
    ·
      have h23 := h3
      refine RL.off rfl rfl ?_
      refine RL.off rfl rfl ?_
      refine RL.ev (.pick_f rfl rfl) rfl rfl ?_
      refine RL.nil (RC.back ?_)
      refine RC.cond_f rfl ?_
      refine RC.skip (RC.back ?_)
      refine RC.seq ?_
      refine RC.region rfl ?_
      refine RL.ev (.move rfl) rfl rfl ?_
      refine RL.ev (.move rfl) rfl rfl ?_
      refine RL.ev (.move rfl) rfl rfl ?_
      refine RL.ev (.as (.bin rfl rfl rfl) (wi64 (y := ((lv + 1 : Nat) : Int)) (by omega) (by omega))) rfl rfl ?_
      refine RL.ev (.move rfl) rfl rfl ?_
      refine RL.ev (.move rfl) rfl rfl ?_
      refine RL.ev (.as (v' := .int .i64 ((i % 4 : Nat) : Int)) (.rem rfl rfl (by decide)) (by congr 1)) rfl rfl ?_
      refine RL.ev (.move rfl) rfl rfl ?_
      refine RL.ev (.as (.bin rfl rfl rfl) (wi64 (y := ((2 * lv : Nat) : Int)) (by omega) (by omega))) rfl rfl ?_
      refine RL.ev (.as (v' := .int .i64 ((4 ^ lv * (i % 4) : Nat) : Int)) (.shl rfl rfl (by omega)) (by exact shl_n _ lv (Nat.mod_lt _ (by decide)) (by omega))) rfl rfl ?_
      refine RL.ev (.as (v' := .int .i64 ((d + 4 ^ lv * (i % 4) : Nat) : Int)) (.bin rfl rfl rfl) (by exact or_add d lv _ hd (Nat.mod_lt _ (by decide)) (by omega))) rfl rfl ?_
      refine RL.ev (.move rfl) rfl rfl ?_
      refine RL.ev (.move rfl) rfl rfl ?_
      refine RL.ev (.as (.bin rfl rfl rfl) (wi64 (y := left - sum) (by rfl) (by omega))) rfl rfl ?_
      refine RL.call rfl ok70 (ih x (d + 4 ^ lv * (i % 4)) (left - sum) w1 (hyo.kids x (List.mem_of_getElem? hx)) (by rw [Nat.pow_succ]; exact dig_bound hd (Nat.mod_lt _ (by decide))) (by omega) (by omega) (hG.sub S)) rfl rfl ?_
      rintro _ w8 ⟨n, rfl, hP, s9⟩
      have S := S.trans s9
      have hb_6 := hb_6.sub s9
      have hPr := hP.rng (by omega)
      rw [hlv] at hP
      refine RL.ev (.assign rfl) rfl rfl ?_
      refine RL.nil (RC.back ?_)
      refine RC.seq ?_
      refine RC.seq ?_
      refine RC.region rfl ?_
      refine RL.ev (.move rfl) rfl rfl ?_
      refine RL.ev (.bin rfl rfl rfl) rfl rfl ?_
      refine RL.nil (RC.back ?_)
      refine RC.cond_dec rfl (fun h10 => ?_) (fun h10 => ?_)
      ·
        have hres : MayP s.1 (k + 1) r d left (-1) := trie_no hk hy hy2 hS (by omega) (.inr ⟨n, by rw [hkx]; exact hP, h10⟩)
        refine RC.seq ?_
        refine RC.region rfl ?_
        refine RL.ev (.assign rfl) rfl rfl ?_
        refine RL.nil (RC.back ?_)
        refine RC.done (rs := [.tmp 10]) (vs := [_]) rfl rfl ⟨rfl, trivial⟩ ?_
        -- end 3
        exact ⟨_, rfl, hres, S⟩
      ·
        have hn0 : 0 ≤ n := (by omega)
        refine RC.skip (RC.back ?_)
        refine RC.region rfl ?_
        refine RL.ev (.move rfl) rfl rfl ?_
        refine RL.ev (.move rfl) rfl rfl ?_
        refine RL.ev (.as (.bin rfl rfl rfl) (wi64 (y := sum + n) (by rfl) (by omega))) rfl rfl ?_
        refine RL.ev (.assign rfl) rfl rfl ?_
        refine RL.nil (RC.back ?_)
        refine RC.region rfl ?_
        refine RL.ev (.as (.bin rfl rfl rfl) (wi64 (y := ((i + 1 : Nat) : Int)) (by omega) (by omega))) rfl rfl ?_
        refine RL.ev (.move rfl) rfl rfl ?_
        exact RL.nil (fun a ka => ⟨(i + 1, sum + n), ⟨by omega, trie_step hk (hlv ▸ hd) hS (by omega) (fun h => absurd h (by omega)) (by rw [hkx]; exact hP) hn0, hb_6, S⟩, by omega, ka.keep (keep_of (by repeat (first | exact trivial | refine And.intro rfl ?_)))⟩)
  ·
    obtain rfl : i = 9 := (by omega)
    have hend := trie_end (r := r) hk hy hy2 hyb hS
    refine RC.exit rfl (RC.back ?_)
    refine RC.seq ?_
    refine RC.seq ?_
    refine RC.region rfl ?_
    refine RL.ev (.move rfl) rfl rfl ?_
    refine RL.ev (.bin rfl rfl rfl) rfl rfl ?_
    refine RL.ev (.move rfl) rfl rfl ?_
    refine RL.split 50 rfl (fun h11 => ?_) (fun h11 => ?_)
    ·
      have hres : MayP s.1 (k + 1) r d left (-1) := hend.2 (.inl h11)
      refine RL.off rfl rfl ?_
      refine RL.off rfl rfl ?_
      refine RL.off rfl rfl ?_
      refine RL.off rfl rfl ?_
      refine RL.ev (.pick_t rfl rfl) rfl rfl ?_
      refine RL.nil (RC.back ?_)
      refine RC.cond_t rfl ?_
      refine RC.seq ?_
      refine RC.region rfl ?_
      refine RL.ev (.assign rfl) rfl rfl ?_
      refine RL.nil (RC.back ?_)
      refine RC.done (rs := [.tmp 10]) (vs := [_]) rfl rfl ⟨rfl, trivial⟩ ?_
      -- end 4
      exact ⟨_, rfl, hres, S⟩
    ·
      have h50 := h11
      refine RL.ev (.move rfl) rfl rfl ?_
      refine RL.ev (.field0 fo97_4 rfl) rfl rfl ?_
      refine RL.ev (.load1 sh2 rfl (hb_6.cell rfl)) rfl rfl ?_
      refine RL.ev (.bin rfl rfl rfl) rfl rfl ?_
      refine RL.ev (.pick_f rfl rfl) rfl rfl ?_
      refine RL.nil (RC.back ?_)
      refine RC.cond_dec rfl (fun h12 => ?_) (fun h12 => ?_)
      ·
        have hres : MayP s.1 (k + 1) r d left (-1) := hend.2 (.inr h12)
        refine RC.seq ?_
        refine RC.region rfl ?_
        refine RL.ev (.assign rfl) rfl rfl ?_
        refine RL.nil (RC.back ?_)
        refine RC.done (rs := [.tmp 10]) (vs := [_]) rfl rfl ⟨rfl, trivial⟩ ?_
        -- end 5
        exact ⟨_, rfl, hres, S⟩
      ·
        have hres : MayP s.1 (k + 1) r d left sum := hend.1 (fun e => e.elim h50 h12)
        refine RC.skip (RC.back ?_)
        refine RC.seq ?_
        refine RC.region rfl ?_
        refine RL.ev (.move rfl) rfl rfl ?_
        refine RL.ev (.assign rfl) rfl rfl ?_
        refine RL.nil (RC.back ?_)
        refine RC.done (rs := [.tmp 10]) (vs := [_]) rfl rfl ⟨rfl, trivial⟩ ?_
        -- end 6
        exact ⟨_, rfl, hres, S⟩
theorem kid_cell {y : Node} {i : Nat} {x : Int} (h : y.kids[i]? = some x) : y.cells[5 + (i : Int).toNat * 1]? = some (u6 x) := by
  have hi : i < 9 := lt_of_get h
  rcases i with _|_|_|_|_|_|_|_|_|i
  all_goals first | (cases h; rfl) | omega
theorem mayP_uniq {A : Ar} {k d : Nat} {r left n m : Int} (h : MayP A k r d left n) (h2 : MayP A k r d left m) : n = m := by
  rcases h with ⟨l, h, rfl⟩ | ⟨rfl, h⟩ <;> rcases h2 with ⟨l', h2, rfl⟩ | ⟨rfl, h2⟩
  · have e1 := h.1.size; have e2 := h2.1.size; omega
  · exact absurd h (h2 l)
  · exact absurd h2 (h l')
  · rfl
def leafV (z : Node) (d : Nat) : Int := if leafH z = z ∧ hashOf z.n % 4 ^ 10 = d then 1 else -1
theorem leafV_ok {A : Ar} {r : Int} {z : Node} {d : Nat} (hz : getA A r = some z) (h3 : z.kind = 3) : MayP A 0 r d 1 (leafV z d) := by
  unfold leafV
  by_cases q : leafH z = z ∧ hashOf z.n % 4 ^ 10 = d
  · rw [if_pos q]; exact (mayP_leaf (k := 0) (d := d) (getA_nz hz) hz h3 (by decide)).1 q
  · rw [if_neg q]; exact (mayP_leaf (k := 0) (d := d) (getA_nz hz) hz h3 (by decide)).2 q
theorem c_mayLeaf (bf : Nat) (s : St) (C : Nat → Prop) (r : Int) (hr : U64 r) (z : Node) (hz : getA s.1 r = some z) (h3 : z.kind = 3) (d : Nat) (w : World) (hF : Ft C (Ho bf s C) w) :
    FC Try.prog 70 [.pointer (some ⟨bf, 0, none⟩), .int .u64 r, .int .i64 10, .int .i64 (d : Int), .int .i64 1] w (Val (.int .i64 (leafV z d)) w) := by
  refine (c_mayG bf s C 0 10 (by decide) rfl r hr d 1 (by decide) w hF (fun y2 e1 e2 => by rw [hz] at e1; cases e1; omega) (fun y2 e1 e2 => by rw [hz] at e1; cases e1; omega)).mono ?_
  rintro v w' ⟨n, rfl, hP, s'⟩
  exact ⟨by rw [mayP_uniq hP (leafV_ok hz h3)], s'⟩
set_option maxHeartbeats 2000000 in
theorem c_clashH (bf : Nat) (s : St) (C : Nat → Prop) (r : Int) (y : Node) (hy : getA s.1 r = some y) (hyo : y.ok) (hy4 : y.kind = 4) (hyb : bareH y = y) (d : Nat) (left : Int) (w : World) (hF : Ft C (Ho bf s C) w) :
    FC Try.prog 96 [.pointer (some ⟨bf, 0, none⟩), y.val, .int .i64 (d : Int)] w (MayR (fun n => (n ≤ left → MayP s.1 0 r d left n) ∧ (left < n → MayP s.1 0 r d left (-1))) w) := by
  have hG : Ft C (Ho bf s C) w := hF
  have hnok := hF.now.nok
  have res_no : (∀ left l, ¬ MayT s.1 0 r d left l) → (((-1 : Int) ≤ left → MayP s.1 0 r d left (-1)) ∧ (left < (-1 : Int) → MayP s.1 0 r d left (-1))) := fun h => ⟨fun _ => .inr ⟨rfl, h left⟩, fun _ => .inr ⟨rfl, h left⟩⟩
  refine FC.intro Try.func96 rfl Try.ntmps96 rfl ?_
  have S := Sub.refl w
  refine RC.seq ?_
  refine RC.region rfl ?_
  refine RL.box rfl rfl rfl (fun b_4 w_4 e_4 z_4 hb_4 s_4 => ?_)
  have ge_4 := S.le e_4
  have S := S.trans s_4
  have hb_4 : Has w_4 b_4 (y.cells) _ := hb_4
  refine RL.ev (.assign rfl) rfl rfl ?_
  refine RL.nil (RC.back ?_)
  refine RC.seq ?_
  refine RC.region rfl ?_
  refine RL.ev (.assign rfl) rfl rfl ?_
  refine RL.nil (RC.back ?_)
  refine RC.seq ?_
  refine RC.seq ?_
  refine RC.region rfl ?_
  refine RL.ev (.field0 fo97_5 rfl) rfl rfl ?_
  refine RL.ev (.as (v' := .agg (y.kids.map u6).toArray) (.loadR (y.kids.map u6) sh95 rfl (Has.row_at (pre := [i6 y.kind, i6 y.gen, i6 y.n, i6 y.v, i6 y.s]) (mid := y.kids.map u6) (post := [i6 y.pre, i6 y.suf]) hb_4 rfl) rfl) (by rfl)) rfl rfl ?_
  refine RL.ev (.move rfl) rfl rfl ?_
  refine RL.nil (RC.back ?_)
  refine RC.block ?_
  refine RC.loop (α := Nat × Int) (fun x => [(0, .pointer (some ⟨bf, 0, none⟩)), (2, .int .i64 (d : Int)), (4, .pointer (some ⟨b_4, 0, none⟩)), (7, .int .i64 x.2), (12, .agg (y.kids.map u6).toArray), (13, .int .i64 (x.1 : Int))]) (fun x w1 => x.1 ≤ 9 ∧ ClashS s.1 y d x.1 x.2 ∧ Has w1 b_4 y.cells 97 ∧ Sub w w1) (fun x => 9 - x.1) (0, 0) (keep_of (by repeat (first | exact trivial | refine And.intro rfl ?_))) (⟨Nat.zero_le _, clash_start, hb_4, S⟩) (fun x w1 hJ => ?_)
  obtain ⟨i, many⟩ := x; obtain ⟨hi, hS, hb_4, S⟩ := hJ; simp only [] at hi hS; have hsr : 0 ≤ many ∧ many ≤ i := (by obtain ⟨l, _, q2, q3, _⟩ := hS; omega)
  refine RC.seq ?_
  refine RC.region rfl ?_
  refine RL.ev (.bin rfl rfl rfl) rfl rfl ?_
  refine RL.nil (RC.back ?_)
  refine RC.seq ?_
  refine RC.cond_dec rfl (fun h2 => ?_) (fun h2 => ?_)
  ·
    obtain ⟨x, hx⟩ := getSome (l := y.kids) (i := i) (by show i < 9; omega)
    have hkx := kid_get hx
    have hxu := hyo.kids x (List.mem_of_getElem? hx)
    have hi9 : i < 9 := (by omega)
    refine RC.skip (RC.back ?_)
    refine RC.seq ?_
    refine RC.block ?_
    refine RC.seq ?_
    refine RC.region rfl ?_
    refine RL.ev (.move rfl) rfl rfl ?_
    refine RL.ev (.index1 ar95 sh36 rfl rfl (by omega) ((by simp [hx] : (y.kids.map u6).toArray[(i : Int).toNat * 1]? = some (u6 x)))) rfl rfl ?_
    refine RL.ev (.assign rfl) rfl rfl ?_
    refine RL.ev (.assign rfl) rfl rfl ?_
    refine RL.nil (RC.back ?_)
    refine RC.seq ?_
    refine RC.region rfl ?_
    refine RL.ev (.move rfl) rfl rfl ?_
    refine RL.ev (.move rfl) rfl rfl ?_
    refine RL.call rfl ok77 (c_hget bf s C x hxu w1 (hG.sub S)) rfl rfl ?_
    rintro _ w3 ⟨rfl, s4⟩
    have S := S.trans s4
    have hb_4 := hb_4.sub s4
    refine RL.alloc ze97 rfl rfl (fun b_10 w_10 e_10 z_10 hb_10 s_10 => ?_)
    have ge_10 := S.le e_10
    have n_4__10 := hb_4.ne e_10
    have S := S.trans s_10
    have hb_4 := hb_4.sub s_10
    refine RL.store sh97 rfl rfl rfl hb_10 (by exact Nat.le_of_ble_eq_true rfl) (by rfl) rfl (fun w5 z5 hb_10 a5 => ?_)
    have S := S.upd a5 ge_10
    have hb_4 := hb_4.upd a5 n_4__10
    have hb_10 : Has w5 b_10 ((getN s.1 x).cells) _ := hb_10.now (by kernel_rfl)
    refine RL.nil (RC.back ?_)
    refine RC.seq ?_
    refine RC.seq ?_
    refine RC.region rfl ?_
    refine RL.ev (.move rfl) rfl rfl ?_
    refine RL.ev (.bin rfl rfl rfl) rfl rfl ?_
    refine RL.nil (RC.back ?_)
    refine RC.cond_dec rfl (fun h6 => ?_) (fun h6 => ?_)
    ·
      have hx0 := h6
      refine RC.exit rfl (RC.back ?_)
      refine RC.region rfl ?_
      refine RL.ev (.as (.bin rfl rfl rfl) (wi64 (y := ((i + 1 : Nat) : Int)) (by omega) (by omega))) rfl rfl ?_
      refine RL.ev (.move rfl) rfl rfl ?_
      exact RL.nil (fun a ka => ⟨(i + 1, many), ⟨by omega, clash_skip hS (by rw [hkx]; exact hx0), hb_4, S⟩, by omega, ka.keep (keep_of (by repeat (first | exact trivial | refine And.intro rfl ?_)))⟩)
    ·
      have hx0 : ¬ x = 0 := h6
      refine RC.skip (RC.back ?_)
      refine RC.seq ?_
      refine RC.seq ?_
      refine RC.draw rfl mxo (by kernel_rfl) ?_
      refine RQ.ev (.move rfl) rfl rfl ?_
      refine RQ.ev (.move rfl) rfl rfl ?_
      refine RQ.ev (.bin rfl rfl rfl) rfl rfl ?_
      refine RQ.ev (.move rfl) rfl rfl ?_
      refine RQ.split 25 rfl (fun h7 => ?_) (fun h7 => ?_)
      ·
        have hres := res_no (clash_no hy hy4 hS hi9 (by rw [hkx]; exact hx0) (.inl h7))
        refine RQ.off rfl rfl ?_
        refine RQ.off rfl rfl ?_
        refine RQ.off rfl rfl ?_
        refine RQ.ev (.pick_t rfl rfl) rfl rfl ?_
        refine RQ.ev (.move rfl) rfl rfl ?_
        refine RQ.off rfl rfl ?_
        refine RQ.off rfl rfl ?_
        refine RQ.off rfl rfl ?_
        refine RQ.off rfl rfl ?_
        refine RQ.off rfl rfl ?_
        refine RQ.ev (.pick_t rfl rfl) rfl rfl ?_
        refine RQ.ev (.move rfl) rfl rfl ?_
        refine RQ.off rfl rfl ?_
        refine RQ.off rfl rfl ?_
        refine RQ.off rfl rfl ?_
        refine RQ.off rfl rfl ?_
        refine RQ.off rfl rfl ?_
        refine RQ.off rfl rfl ?_
        refine RQ.off rfl rfl ?_
        refine RQ.off rfl rfl ?_
        refine RQ.off rfl rfl ?_
        refine RQ.off rfl rfl ?_
        refine RQ.off rfl rfl ?_
        refine RQ.off rfl rfl ?_
        refine RQ.off rfl rfl ?_
        refine RQ.off rfl rfl ?_
        refine RQ.off rfl rfl ?_
        refine RQ.ev (.pick_t rfl rfl) rfl rfl ?_
        refine RQ.nil (fun w8 s9 => RC.back ?_)
        have S := S.trans s9
        have hb_4 := hb_4.sub s9
        have hb_10 := hb_10.sub s9
        refine RC.cond_t rfl ?_
        refine RC.seq ?_
        refine RC.region rfl ?_
        refine RL.ev (.assign rfl) rfl rfl ?_
        refine RL.nil (RC.back ?_)
        refine RC.done (rs := [.tmp 6]) (vs := [_]) rfl rfl ⟨rfl, trivial⟩ ?_
        -- end 1
        exact ⟨_, rfl, hres, S⟩
      ·
        have him : (i : Int) = many := Decidable.not_not.1 h7
        refine RQ.ev (.field0 fo97_0 rfl) rfl rfl ?_
        refine RQ.ev (.load1 sh3 rfl (hb_10.cell rfl)) rfl rfl ?_
        refine RQ.ev (.bin rfl rfl rfl) rfl rfl ?_
        refine RQ.ev (.pick_f rfl rfl) rfl rfl ?_
        refine RQ.ev (.move rfl) rfl rfl ?_
        refine RQ.split 30 rfl (fun h10 => ?_) (fun h10 => ?_)
        ·
          have hres := res_no (clash_no hy hy4 hS hi9 (by rw [hkx]; exact hx0) (.inr (.inl (by rw [hkx]; exact h10))))
          refine RQ.off rfl rfl ?_
          refine RQ.off rfl rfl ?_
          refine RQ.off rfl rfl ?_
          refine RQ.off rfl rfl ?_
          refine RQ.off rfl rfl ?_
          refine RQ.ev (.pick_t rfl rfl) rfl rfl ?_
          refine RQ.ev (.move rfl) rfl rfl ?_
          refine RQ.off rfl rfl ?_
          refine RQ.off rfl rfl ?_
          refine RQ.off rfl rfl ?_
          refine RQ.off rfl rfl ?_
          refine RQ.off rfl rfl ?_
          refine RQ.off rfl rfl ?_
          refine RQ.off rfl rfl ?_
          refine RQ.off rfl rfl ?_
          refine RQ.off rfl rfl ?_
          refine RQ.off rfl rfl ?_
          refine RQ.off rfl rfl ?_
          refine RQ.off rfl rfl ?_
          refine RQ.off rfl rfl ?_
          refine RQ.off rfl rfl ?_
          refine RQ.off rfl rfl ?_
          refine RQ.ev (.pick_t rfl rfl) rfl rfl ?_
          refine RQ.nil (fun w11 s12 => RC.back ?_)
          have S := S.trans s12
          have hb_4 := hb_4.sub s12
          have hb_10 := hb_10.sub s12
          refine RC.cond_t rfl ?_
          refine RC.seq ?_
          refine RC.region rfl ?_
          refine RL.ev (.assign rfl) rfl rfl ?_
          refine RL.nil (RC.back ?_)
          refine RC.done (rs := [.tmp 6]) (vs := [_]) rfl rfl ⟨rfl, trivial⟩ ?_
          -- end 2
          exact ⟨_, rfl, hres, S⟩
        ·
          have hx3 : (getN s.1 x).kind = 3 := Decidable.not_not.1 h10
          obtain ⟨z, hz⟩ : ∃ z, getA s.1 x = some z := (by cases hg : getA s.1 x with | none => rw [getN, hg] at hx3; exact absurd hx3 (show ¬ (0 : Int) = 3 by decide) | some z => exact ⟨z, rfl⟩)
          have hgz := getN_yes hz
          rw [hgz] at hx3
          refine RQ.ev (.move rfl) rfl rfl ?_
          refine RQ.ev (.move rfl) rfl rfl ?_
          refine RQ.ev (.move rfl) rfl rfl ?_
          refine RQ.call rfl ok70 (fun w' s' => c_mayLeaf bf s C x hxu z hz hx3 d w' (hG.sub (S.trans s'))) rfl rfl ?_
          refine RQ.ev (.bin rfl rfl rfl) rfl rfl ?_
          refine RQ.ev (.pick_f rfl rfl) rfl rfl ?_
          refine RQ.ev (.move rfl) rfl rfl ?_
          refine RQ.split 37 rfl (fun h13 => ?_) (fun h13 => ?_)
          ·
            have hres := res_no (clash_no hy hy4 hS hi9 (by rw [hkx]; exact hx0) (.inr (.inr (.inl ⟨leafV z d, by rw [hkx]; exact leafV_ok hz hx3, h13⟩))))
            refine RQ.off rfl rfl ?_
            refine RQ.off rfl rfl ?_
            refine RQ.off rfl rfl ?_
            refine RQ.off rfl rfl ?_
            refine RQ.off rfl rfl ?_
            refine RQ.off rfl rfl ?_
            refine RQ.off rfl rfl ?_
            refine RQ.off rfl rfl ?_
            refine RQ.off rfl rfl ?_
            refine RQ.off rfl rfl ?_
            refine RQ.off rfl rfl ?_
            refine RQ.off rfl rfl ?_
            refine RQ.off rfl rfl ?_
            refine RQ.off rfl rfl ?_
            refine RQ.off rfl rfl ?_
            refine RQ.ev (.pick_t rfl rfl) rfl rfl ?_
            refine RQ.nil (fun w14 s15 => RC.back ?_)
            have S := S.trans s15
            have hb_4 := hb_4.sub s15
            have hb_10 := hb_10.sub s15
            refine RC.cond_t rfl ?_
            refine RC.seq ?_
            refine RC.region rfl ?_
            refine RL.ev (.assign rfl) rfl rfl ?_
            refine RL.nil (RC.back ?_)
            refine RC.done (rs := [.tmp 6]) (vs := [_]) rfl rfl ⟨rfl, trivial⟩ ?_
            -- end 3
            exact ⟨_, rfl, hres, S⟩
          ·
            have hn1 : leafV z d = 1 := Decidable.not_not.1 h13
            have hP1 := leafV_ok (d := d) hz hx3
            rw [hn1] at hP1
            refine RQ.ev (.move rfl) rfl rfl ?_
            refine RQ.ev (.bin rfl rfl rfl) rfl rfl ?_
            refine RQ.ev (.move rfl) rfl rfl ?_
            refine RQ.split 40 rfl (fun h16 => ?_) (fun h16 => ?_)
            ·
              have h40 : 0 < i := (by have := h16; omega)
              obtain ⟨x1, hx1⟩ := getSome (l := y.kids) (i := i - 1) (by show i - 1 < 9; omega)
              have hkx1 := kid_get hx1
              refine RQ.ev (.move rfl) rfl rfl ?_
              refine RQ.ev (.move rfl) rfl rfl ?_
              refine RQ.ev (.as (.bin rfl rfl rfl) (wi64 (y := ((i - 1 : Nat) : Int)) (by omega) (by omega))) rfl rfl ?_
              refine RQ.ev (.field0 fo97_5 rfl) rfl rfl ?_
              refine RQ.ev (.indexArr ar95 rfl rfl (by omega)) rfl rfl ?_
              refine RQ.ev (.load1 sh36 rfl (hb_4.cell (kid_cell hx1))) rfl rfl ?_
              refine RQ.call rfl ok77 (fun w' s' => c_hget bf s C x1 (hyo.kids x1 (List.mem_of_getElem? hx1)) w' (hG.sub (S.trans s'))) rfl rfl ?_
              refine RQ.ev (.fieldV Try.underlying97 rfl sh2 rfl rfl) rfl rfl ?_
              refine RQ.ev (.field0 fo97_2 rfl) rfl rfl ?_
              refine RQ.ev (.load1 sh2 rfl (hb_10.cell rfl)) rfl rfl ?_
              refine RQ.ev (.bin rfl rfl rfl) rfl rfl ?_
              refine RQ.ev (.pick_t rfl rfl) rfl rfl ?_
              refine RQ.ev (.pick_f rfl rfl) rfl rfl ?_
              refine RQ.nil (fun w17 s18 => RC.back ?_)
              have S := S.trans s18
              have hb_4 := hb_4.sub s18
              have hb_10 := hb_10.sub s18
              refine RC.cond_dec rfl (fun h19 => ?_) (fun h19 => ?_)
              ·
                have hres := res_no (clash_no hy hy4 hS hi9 (by rw [hkx]; exact hx0) (.inr (.inr (.inr ⟨h40, by rw [hkx, hkx1]; exact h19⟩))))
                refine RC.seq ?_
                refine RC.region rfl ?_
                refine RL.ev (.assign rfl) rfl rfl ?_
                refine RL.nil (RC.back ?_)
                refine RC.done (rs := [.tmp 6]) (vs := [_]) rfl rfl ⟨rfl, trivial⟩ ?_
                -- end 4
                exact ⟨_, rfl, hres, S⟩
              ·
                have hlt := h19
                refine RC.skip (RC.back ?_)
                refine RC.region rfl ?_
                refine RL.ev (.move rfl) rfl rfl ?_
                refine RL.ev (.as (.bin rfl rfl rfl) (wi64 (y := many + 1) (by rfl) (by omega))) rfl rfl ?_
                refine RL.ev (.assign rfl) rfl rfl ?_
                refine RL.nil (RC.back ?_)
                refine RC.region rfl ?_
                refine RL.ev (.as (.bin rfl rfl rfl) (wi64 (y := ((i + 1 : Nat) : Int)) (by omega) (by omega))) rfl rfl ?_
                refine RL.ev (.move rfl) rfl rfl ?_
                exact RL.nil (fun a ka => ⟨(i + 1, many + 1), ⟨by omega, clash_step hS him (by rw [hkx]; exact hz) hx3 (by rw [hkx]; exact hP1) (fun h => by first | exact absurd h h40 | (rw [hkx1]; rw [hgz] at hlt; omega)), hb_4, S⟩, by omega, ka.keep (keep_of (by repeat (first | exact trivial | refine And.intro rfl ?_)))⟩)
            ·
              have h40 : ¬ 0 < i := (by have := h16; omega)
              refine RQ.off rfl rfl ?_
              refine RQ.off rfl rfl ?_
              refine RQ.off rfl rfl ?_
              refine RQ.off rfl rfl ?_
              refine RQ.off rfl rfl ?_
              refine RQ.off rfl rfl ?_
              refine RQ.off rfl rfl ?_
              refine RQ.off rfl rfl ?_
              refine RQ.off rfl rfl ?_
              refine RQ.off rfl rfl ?_
              refine RQ.off rfl rfl ?_
              refine RQ.ev (.pick_f rfl rfl) rfl rfl ?_
              refine RQ.ev (.pick_f rfl rfl) rfl rfl ?_
              refine RQ.nil (fun w20 s21 => RC.back ?_)
              have S := S.trans s21
              have hb_4 := hb_4.sub s21
              have hb_10 := hb_10.sub s21
              refine RC.cond_f rfl ?_
              refine RC.skip (RC.back ?_)
              refine RC.region rfl ?_
              refine RL.ev (.move rfl) rfl rfl ?_
              refine RL.ev (.as (.bin rfl rfl rfl) (wi64 (y := many + 1) (by rfl) (by omega))) rfl rfl ?_
              refine RL.ev (.assign rfl) rfl rfl ?_
              refine RL.nil (RC.back ?_)
              refine RC.region rfl ?_
              refine RL.ev (.as (.bin rfl rfl rfl) (wi64 (y := ((i + 1 : Nat) : Int)) (by omega) (by omega))) rfl rfl ?_
              refine RL.ev (.move rfl) rfl rfl ?_
              exact RL.nil (fun a ka => ⟨(i + 1, many + 1), ⟨by omega, clash_step hS him (by rw [hkx]; exact hz) hx3 (by rw [hkx]; exact hP1) (fun h => by first | exact absurd h h40 | (rw [hkx1]; rw [hgz] at hlt; omega)), hb_4, S⟩, by omega, ka.keep (keep_of (by repeat (first | exact trivial | refine And.intro rfl ?_)))⟩)
  ·
    obtain rfl : i = 9 := (by omega)
    have hend := clash_end (r := r) (left := left) hy hy4 hyb hS
    refine RC.exit rfl (RC.back ?_)
    refine RC.seq ?_
    refine RC.seq ?_
    refine RC.region rfl ?_
    refine RL.ev (.move rfl) rfl rfl ?_
    refine RL.ev (.bin rfl rfl rfl) rfl rfl ?_
    refine RL.ev (.move rfl) rfl rfl ?_
    refine RL.split 59 rfl (fun h22 => ?_) (fun h22 => ?_)
    ·
      have hres := res_no fun left l => (clash_end (left := left) hy hy4 hyb hS).2 (.inl (.inl h22)) l
      refine RL.off rfl rfl ?_
      refine RL.off rfl rfl ?_
      refine RL.off rfl rfl ?_
      refine RL.off rfl rfl ?_
      refine RL.ev (.pick_t rfl rfl) rfl rfl ?_
      refine RL.nil (RC.back ?_)
      refine RC.cond_t rfl ?_
      refine RC.seq ?_
      refine RC.region rfl ?_
      refine RL.ev (.assign rfl) rfl rfl ?_
      refine RL.nil (RC.back ?_)
      refine RC.done (rs := [.tmp 6]) (vs := [_]) rfl rfl ⟨rfl, trivial⟩ ?_
      -- end 5
      exact ⟨_, rfl, hres, S⟩
    ·
      have h59 := h22
      refine RL.ev (.move rfl) rfl rfl ?_
      refine RL.ev (.field0 fo97_4 rfl) rfl rfl ?_
      refine RL.ev (.load1 sh2 rfl (hb_4.cell rfl)) rfl rfl ?_
      refine RL.ev (.bin rfl rfl rfl) rfl rfl ?_
      refine RL.ev (.pick_f rfl rfl) rfl rfl ?_
      refine RL.nil (RC.back ?_)
      refine RC.cond_dec rfl (fun h23 => ?_) (fun h23 => ?_)
      ·
        have hres := res_no fun left l => (clash_end (left := left) hy hy4 hyb hS).2 (.inl (.inr h23)) l
        refine RC.seq ?_
        refine RC.region rfl ?_
        refine RL.ev (.assign rfl) rfl rfl ?_
        refine RL.nil (RC.back ?_)
        refine RC.done (rs := [.tmp 6]) (vs := [_]) rfl rfl ⟨rfl, trivial⟩ ?_
        -- end 6
        exact ⟨_, rfl, hres, S⟩
      ·
        have h64 := h23
        have hres : (many ≤ left → MayP s.1 0 r d left many) ∧ (left < many → MayP s.1 0 r d left (-1)) := ⟨fun h => hend.1 (fun e => e.elim h59 h64) h, fun h => .inr ⟨rfl, hend.2 (.inr h)⟩⟩
        refine RC.skip (RC.back ?_)
        refine RC.seq ?_
        refine RC.region rfl ?_
        refine RL.ev (.move rfl) rfl rfl ?_
        refine RL.ev (.assign rfl) rfl rfl ?_
        refine RL.nil (RC.back ?_)
        refine RC.done (rs := [.tmp 6]) (vs := [_]) rfl rfl ⟨rfl, trivial⟩ ?_
        -- end 7
        exact ⟨_, rfl, hres, S⟩
theorem c_hmay (bf : Nat) (s : St) (C : Nat → Prop) : ∀ (k lv : Nat) (r : Int) (d : Nat) (left : Int) (w : World), k ≤ 10 → lv = 10 - k → U64 r → d < 4 ^ lv → 0 ≤ left → left ≤ 1000000 → Ft C (Ho bf s C) w →
    FC Try.prog 70 [.pointer (some ⟨bf, 0, none⟩), .int .u64 r, .int .i64 (lv : Int), .int .i64 (d : Int), .int .i64 left] w (MayR (MayP s.1 k r d left) w)
  | 0, lv, r, d, left, w, hk, hlv, hr, hd, h0, hl, hF =>
    c_mayG bf s C 0 lv hk hlv r hr d left h0 w hF (fun y _ _ _ h => absurd rfl h) (fun y hy h4 hb _ _ w' s' => c_clashH bf s C r y hy (hF.now.nok y (getA_nok hy)) h4 hb d left w' (hF.sub s'))
  | k + 1, lv, r, d, left, w, hk, hlv, hr, hd, h0, hl, hF =>
    c_mayG bf s C (k + 1) lv hk hlv r hr d left h0 w hF (fun y hy h2 hb _ _ w' s' => c_trie bf s C k lv (by omega) (by omega) r y hy (hF.now.nok y (getA_nok hy)) h2 hb d hd left h0 hl
      (fun r' d' left' w2 h1 h2 h3 h4 h5 => c_hmay bf s C k (lv + 1) r' d' left' w2 (by omega) (by omega) h1 h2 h3 h4 h5) w' (hF.sub s')) (fun y _ _ _ h => absurd h (by omega))
theorem c_hRight (A : Ar) (na fa : Option Addr) (nc fc : Nat) (hnc : A.nodes.length ≤ nc) (hfc : A.free.length ≤ fc) (r : Int) (hr : U64 r) (w : World) (hA : ArR w na fa A) :
    FC Try.prog 42 [arV na fa nc fc A, .int .u64 r] w (Val (.bool (isTabB A r)) w) := by
  have hN := hA.nodes
  have hFr := hA.free
  have hG : Ft (· < w.heap.size) (fun u => ArR u na fa A) w := Ft.of_sub fun u s => hA.sub s
  refine FC.intro Try.func42 rfl Try.ntmps42 rfl ?_
  have S := Sub.refl w
  refine RC.seq ?_
  refine RC.region rfl ?_
  refine RL.box rfl rfl rfl (fun b_2 w_2 e_2 z_2 hb_2 s_2 => ?_)
  have ge_2 := S.le e_2
  have S := S.trans s_2
  have hb_2 : Has w_2 b_2 ([.slice na A.nodes.length nc, .slice fa A.free.length fc]) _ := hb_2
  refine RL.ev (.assign rfl) rfl rfl ?_
  refine RL.nil (RC.back ?_)
  refine RC.seq ?_
  refine RC.region rfl ?_
  refine RL.ev (.loadR ([.slice na A.nodes.length nc, .slice fa A.free.length fc]) sh34 rfl hb_2.row rfl) rfl rfl ?_
  refine RL.ev (.buildS ze108 pl108 rfl rfl) rfl rfl ?_
  refine RL.box rfl rfl rfl (fun b_8 w_8 e_8 z_8 hb_8 s_8 => ?_)
  have ge_8 := S.le e_8
  have n_2__8 := hb_2.ne e_8
  have S := S.trans s_8
  have hb_2 := hb_2.sub s_8
  have hb_8 : Has w_8 b_8 (wvC na fa nc fc A 0) 108 := hb_8
  have hG1 := hG.sub S
  have hF := FoG.ft (s := (A, 0)) hb_8 hnc hfc hG1 (fun e => by have := ge_8; omega)
  refine RL.ev (.assign rfl) rfl rfl ?_
  refine RL.nil (RC.back ?_)
  refine RC.seq ?_
  refine RC.region rfl ?_
  refine RL.ev (.loadR ([.slice na A.nodes.length nc, .slice fa A.free.length fc]) sh34 rfl hb_2.row rfl) rfl rfl ?_
  refine RL.call rfl ok67 (c_aRight A na fa nc fc w_8 (hA.sub S)) rfl rfl ?_
  rintro _ w1 ⟨rfl, s2⟩
  have S := S.trans s2
  have hb_2 := hb_2.sub s2
  have hF := hF.sub s2
  refine RL.ev (.move rfl) rfl rfl ?_
  refine RL.splitB 11 rfl (fun h3 => ?_) (fun h3 => ?_)
  ·
    have hok : AOk A := (aokB_iff A).1 h3
    refine RL.ev (.move rfl) rfl rfl ?_
    refine RL.ev (.move rfl) rfl rfl ?_
    refine RL.call rfl ok70 (c_hmay b_8 (A, 0) _ 10 0 r 0 200 w1 (by decide) rfl hr (by decide) (by decide) (by decide) hF) rfl rfl ?_
    rintro _ w4 ⟨n, rfl, hP, s5⟩
    have S := S.trans s5
    have hb_2 := hb_2.sub s5
    have hF := hF.sub s5
    have hP := isTab_iff hok hP
    refine RL.ev (.bin rfl rfl rfl) rfl rfl ?_
    refine RL.ev (.pick_t rfl rfl) rfl rfl ?_
    refine RL.ev (.assign rfl) rfl rfl ?_
    refine RL.nil (RC.back ?_)
    refine RC.done (rs := [.tmp 4]) (vs := [_]) rfl rfl ⟨rfl, trivial⟩ ?_
    -- end 1
    exact ⟨congrArg Value.bool ((Bool.eq_iff_iff.2 (by rw [isTabB_iff, decide_eq_true_iff]; exact hP))), S⟩
  ·
    have hno : isTabB A r = false := isTabB_no (fun h => by have h2 := h3; rw [(aokB_iff A).2 h.1] at h2; cases h2)
    refine RL.off rfl rfl ?_
    refine RL.off rfl rfl ?_
    refine RL.off rfl rfl ?_
    refine RL.off rfl rfl ?_
    refine RL.ev (.pick_f rfl rfl) rfl rfl ?_
    refine RL.ev (.assign rfl) rfl rfl ?_
    refine RL.nil (RC.back ?_)
    refine RC.done (rs := [.tmp 4]) (vs := [_]) rfl rfl ⟨rfl, trivial⟩ ?_
    -- end 2
    rw [hno]
    exact ⟨rfl, S⟩
end Go.Proofs.Ytbfjobmebkhblaa
set_option linter.unusedVariables false
set_option linter.unusedSimpArgs false
namespace Go.Proofs.Ytbfjobmebkhblaa
open Go Go.XL
/-- how many keys have one's hash -/
def shL (key : Int) (L : List It) : Nat := (L.filter fun x => decide (hashOf x.k = hashOf key)).length
theorem shL_le (key : Int) (L : List It) : shL key L ≤ L.length := List.length_filter_le _ _
end Go.Proofs.Ytbfjobmebkhblaa
set_option linter.unusedVariables false
set_option linter.unusedSimpArgs false
set_option maxRecDepth 4000
namespace Go.Proofs.Ytbfjobmebkhblaa
open Go Go.XL
theorem HoQ.refl {s : St} (h : AOk s.1) : HoQ 0 s s := ⟨Gs.refl h, fun _ => rfl⟩
end Go.Proofs.Ytbfjobmebkhblaa
set_option linter.unusedVariables false
set_option linter.unusedSimpArgs false
namespace Go.Proofs.Ytbfjobmebkhblaa
open Go Go.XL
/-- keys that may not be put -/
def BadH (L : List It) (key : Int) : Prop := key < -1073741824 ∨ key > 1073741824 ∨ (hasK L key = false ∧ (200 ≤ L.length ∨ shL key L = 9))
def PutPH (A : Ar) (r key v : Int) (B : Ar) (r' e : Int) : Prop :=
  (¬ isTab A r → e = 1) ∧ (¬ e = 0 → B = ar0 ∧ r' = 0) ∧ ∀ L, isTab A r → IsH A 10 r L → Ap L → (BadH L key ∧ e = 5) ∨ (¬ BadH L key ∧ e = 2 ∧ A.free.length < cnt 10 (putM L key v)) ∨ (¬ BadH L key ∧ e = 0 ∧ Ext A B ∧ AOk B ∧ A.free.length ≤ B.free.length + cnt 10 (putM L key v) ∧ IsH B 10 r' (putM L key v))
theorem shL_perm {key : Int} {L M : List It} (p : L.Perm M) : shL key L = shL key M := (p.filter _).length_eq
theorem BadH.perm {key : Int} {L M : List It} (p : L.Perm M) (h : BadH L key) : BadH M key := by
  unfold BadH at h ⊢
  rw [← hasK_perm p, ← p.length_eq, ← shL_perm p]; exact h
def DelPH (A : Ar) (r key : Int) (B : Ar) (r' e : Int) : Prop :=
  (¬ isTab A r → e = 1) ∧ (¬ e = 0 → B = ar0 ∧ r' = 0) ∧ ∀ L, isTab A r → IsH A 10 r L → Ap L → (hasK L key = false ∧ e = 3) ∨ (hasK L key = true ∧ e = 2 ∧ A.free.length < cnt 10 (delL L key)) ∨ (hasK L key = true ∧ e = 0 ∧ Ext A B ∧ AOk B ∧ A.free.length ≤ B.free.length + cnt 10 (delL L key) ∧ IsH B 10 r' (delL L key))
end Go.Proofs.Ytbfjobmebkhblaa
set_option linter.unusedVariables false
set_option linter.unusedSimpArgs false
namespace Go.Proofs.Ytbfjobmebkhblaa
open Go Go.XL
theorem rem_hash (key : Int) : Value.int .u64 (((rankOf key).toNat : Int).tmod 1048576) = .int .u64 (hashOf key : Int) := by
  congr 1
theorem div4 (key : Int) (i : Nat) : ((hashOf key / 4 ^ i : Nat) : Int).tdiv 4 = ((hashOf key / 4 ^ (i + 1) : Nat) : Int) := by
  rw [Nat.pow_succ, ← Nat.div_div_eq_div_mul]
  rw [Int.tdiv_eq_ediv_of_nonneg (Int.natCast_nonneg _)]
  rfl
theorem c_refDigit (key : Int) (lv : Nat) (hlv : lv ≤ 10) (w : World) : FC Try.prog 51 [.int .i64 key, .int .i64 (lv : Int)] w (Val (.int .i64 (dig key lv : Int)) w) := by
  have hh := hashOf_lt key
  refine FC.intro Try.func51 rfl Try.ntmps51 rfl ?_
  have S := Sub.refl w
  refine RC.seq ?_
  refine RC.region rfl ?_
  refine RL.ev (.assign rfl) rfl rfl ?_
  refine RL.nil (RC.back ?_)
  refine RC.seq ?_
  refine RC.region rfl ?_
  refine RL.ev (.move rfl) rfl rfl ?_
  refine RL.call rfl ok44 (c_refRank key w) rfl rfl ?_
  rintro _ w1 ⟨rfl, s2⟩
  have S := S.trans s2
  refine RL.ev (.as (v' := .int .u64 ((hashOf key / 4 ^ 0 : Nat) : Int)) (.rem rfl rfl (by decide)) (by rw [Nat.pow_zero, Nat.div_one]; exact rem_hash key)) rfl rfl ?_
  refine RL.ev (.assign rfl) rfl rfl ?_
  refine RL.nil (RC.back ?_)
  refine RC.seq ?_
  refine RC.seq ?_
  refine RC.region rfl ?_
  refine RL.ev (.assign rfl) rfl rfl ?_
  refine RL.nil (RC.back ?_)
  refine RC.block ?_
  refine RC.loop (α := Nat) (fun i => [(1, .int .i64 (lv : Int)), (5, .int .u64 ((hashOf key / 4 ^ i : Nat) : Int)), (6, .int .i64 (i : Int))]) (fun i w3 => i ≤ lv ∧ Sub w w3) (fun i => lv - i) 0 (keep_of (by repeat (first | exact trivial | refine And.intro rfl ?_))) (⟨Nat.zero_le _, S⟩) (fun i w3 hJ => ?_)
  obtain ⟨hi, S⟩ := hJ; have hq : hashOf key / 4 ^ i ≤ hashOf key := Nat.div_le_self _ _
  refine RC.seq ?_
  refine RC.seq ?_
  refine RC.region rfl ?_
  refine RL.ev (.move rfl) rfl rfl ?_
  refine RL.ev (.move rfl) rfl rfl ?_
  refine RL.ev (.bin rfl rfl rfl) rfl rfl ?_
  refine RL.nil (RC.back ?_)
  refine RC.cond_dec rfl (fun h4 => ?_) (fun h4 => ?_)
  ·
    refine RC.skip (RC.back ?_)
    refine RC.seq ?_
    refine RC.block ?_
    refine RC.region rfl ?_
    refine RL.ev (.move rfl) rfl rfl ?_
    refine RL.ev (.as (v' := .int .u64 ((hashOf key / 4 ^ (i + 1) : Nat) : Int)) (.quo rfl rfl (by decide)) (by rw [← div4]; first | rfl | exact congrArg _ (wrap_u64 (by rw [div4]; exact ⟨Int.natCast_nonneg _, Int.le_trans (Int.ofNat_le.2 (Nat.div_le_self (hashOf key) _)) (by omega)⟩)))) rfl rfl ?_
    refine RL.ev (.assign rfl) rfl rfl ?_
    refine RL.nil (RC.back ?_)
    refine RC.region rfl ?_
    refine RL.ev (.move rfl) rfl rfl ?_
    refine RL.ev (.as (.bin rfl rfl rfl) (wi64 (y := ((i + 1 : Nat) : Int)) (by omega) (by omega))) rfl rfl ?_
    refine RL.ev (.assign rfl) rfl rfl ?_
    exact RL.nil (fun a ka => ⟨i + 1, ⟨by omega, S⟩, by omega, ka.keep (keep_of (by repeat (first | exact trivial | refine And.intro rfl ?_)))⟩)
  ·
    obtain rfl : i = lv := (by omega)
    have hdlt := dig_lt key i
    refine RC.exit rfl (RC.back ?_)
    refine RC.seq ?_
    refine RC.region rfl ?_
    refine RL.ev (.move rfl) rfl rfl ?_
    refine RL.ev (.as (v' := .int .u64 (dig key i : Int)) (.rem rfl rfl (by decide)) (by first | rfl | (congr 1))) rfl rfl ?_
    refine RL.ev (.as (.conv i35 i3 rfl) (wi64 (y := (dig key i : Int)) (by first | rfl | (have := dig_lt key i; omega)) (by omega))) rfl rfl ?_
    refine RL.ev (.assign rfl) rfl rfl ?_
    refine RL.nil (RC.back ?_)
    refine RC.done (rs := [.tmp 4]) (vs := [_]) rfl rfl ⟨rfl, trivial⟩ ?_
    -- end 1
    exact ⟨rfl, S⟩
theorem c_refOf9 (l : List It) (a : Option Addr) (c m : Nat) (hm : m = l.length) (lv d : Nat) (hlv : lv ≤ 10) (w : World) (hl : Sl w a 2 (l.map It.cells)) (hb : l.length ≤ 1000000) :
    FC Try.prog 62 [.slice a m c, .int .i64 (lv : Int), .int .i64 (d : Int)] w (fun u w' => ∃ a' c', u = .slice a' ((ofL lv d l).map It.cells).length c' ∧ Ows w.heap.size w' 29 2 (.slice a' ((ofL lv d l).map It.cells).length c') ((ofL lv d l).map It.cells) ∧ Sub w w') := by
  subst hm
  refine FC.intro Try.func62 rfl Try.ntmps62 rfl ?_
  have S := Sub.refl w
  refine RC.seq ?_
  refine RC.region rfl ?_
  refine RL.ev (.assign rfl) rfl rfl ?_
  refine RL.nil (RC.back ?_)
  refine RC.seq ?_
  refine RC.region rfl ?_
  refine RL.buildSlice0 sl26 rfl rfl (fun b_10 w_10 e_10 z_10 hb_10 s_10 => ?_)
  have ge_10 := S.le e_10
  have S := S.trans s_10
  refine RL.ev (.assign rfl) rfl rfl ?_
  refine RL.nil (RC.back ?_)
  refine RC.seq ?_
  refine RC.seq ?_
  refine RC.region rfl ?_
  refine RL.ev (.move rfl) rfl rfl ?_
  refine RL.ev (.len sl26 rfl) rfl rfl ?_
  refine RL.ev (.move rfl) rfl rfl ?_
  refine RL.nil (RC.back ?_)
  refine RC.block ?_
  refine RC.loop (α := Nat × Option Addr × Nat × Nat) (fun x => [(1, .int .i64 (lv : Int)), (2, .int .i64 (d : Int)), (7, .slice x.2.1 x.2.2.1 x.2.2.2), (11, .slice a l.length c), (12, .int .i64 (l.length : Int)), (13, .int .i64 (x.1 : Int))]) (fun x w1 => x.1 ≤ l.length ∧ Ows w.heap.size w1 29 2 (.slice x.2.1 x.2.2.1 x.2.2.2) ((ofL lv d (l.take x.1)).map It.cells) ∧ Sub w w1) (fun x => l.length - x.1) (0, some ⟨b_10, 0, none⟩, 0, 0) (keep_of (by repeat (first | exact trivial | refine And.intro rfl ?_))) (⟨Nat.zero_le _, Ows.lit0 hb_10 (by omega), S⟩) (fun x w1 hJ => ?_)
  obtain ⟨i, ao, mo, co⟩ := x; obtain ⟨hi, o, S⟩ := hJ; simp only [] at hi o; obtain rfl := o.sl.2; have szB := S.size; have hdl : (ofL lv d (l.take i)).length ≤ i := Nat.le_trans (ofL_len _ _ _) (by rw [List.length_take]; omega)
  refine RC.seq ?_
  refine RC.region rfl ?_
  refine RL.ev (.bin rfl rfl rfl) rfl rfl ?_
  refine RL.nil (RC.back ?_)
  refine RC.seq ?_
  refine RC.cond_dec rfl (fun h2 => ?_) (fun h2 => ?_)
  ·
    obtain ⟨x, hx⟩ := getSome (l := l) (i := i) (by omega)
    refine RC.skip (RC.back ?_)
    refine RC.seq ?_
    refine RC.block ?_
    refine RC.seq ?_
    refine RC.region rfl ?_
    refine RL.ev (.indexS sl26 rfl rfl (by omega) (hl.is (i := 0) (by simp only [List.length_map, List.length_cons, List.length_nil]; omega))) rfl rfl ?_
    refine RL.ev (.loadR (x.cells) sh29 rfl ((hl.sub S).rowAt (enc := It.cells) (i := i) hx) rfl) rfl rfl ?_
    refine RL.alloc ze29 rfl rfl (fun b_9 w_9 e_9 z_9 hb_9 s_9 => ?_)
    have ge_9 := S.le e_9
    have d_o_b_9 := o.neNew e_9
    have S := S.trans s_9
    have o := o.sub s_9
    have szB := Nat.le_trans szB s_9.size
    refine RL.store sh29 rfl rfl rfl hb_9 (by exact Nat.le_of_ble_eq_true rfl) (by rfl) rfl (fun w3 z3 hb_9 a3 => ?_)
    have S := S.upd a3 ge_9
    have o := o.updD a3 d_o_b_9
    have szB := Nat.le_trans szB a3.size
    have hb_9 : Has w3 b_9 (x.cells) _ := hb_9.now (by kernel_rfl)
    refine RL.nil (RC.back ?_)
    refine RC.seq ?_
    refine RC.region rfl ?_
    refine RL.ev (.field0 fo29_0 rfl) rfl rfl ?_
    refine RL.ev (.load1 sh2 rfl (hb_9.cell rfl)) rfl rfl ?_
    refine RL.ev (.move rfl) rfl rfl ?_
    refine RL.call rfl ok51 (c_refDigit x.k lv hlv w3) rfl rfl ?_
    rintro _ w4 ⟨rfl, s5⟩
    have S := S.trans s5
    have o := o.sub s5
    have szB := Nat.le_trans szB s5.size
    have hb_9 := hb_9.sub s5
    refine RL.ev (.move rfl) rfl rfl ?_
    refine RL.ev (.bin rfl rfl rfl) rfl rfl ?_
    refine RL.nil (RC.back ?_)
    refine RC.cond_dec rfl (fun h6 => ?_) (fun h6 => ?_)
    ·
      have hk : dig x.k lv = d := (by have := h6; omega)
      have hnext : ofL lv d (l.take (i + 1)) = ofL lv d (l.take i) ++ [x] := (by unfold ofL; rw [filter_take hx, if_pos (decide_eq_true hk)])
      refine RC.region rfl ?_
      refine RL.ev (.move rfl) rfl rfl ?_
      refine RL.ev (.loadR (x.cells) sh29 rfl hb_9.row rfl) rfl rfl ?_
      refine RL.buildSlice1 sl26 _ ze29 rfl rfl rfl rfl rfl rfl rfl (fun b_25 w_25 e_25 z_25 hb_25 s_25 => ?_)
      have ge_25 := S.le e_25
      have n_9__25 := hb_9.ne e_25
      have d_o_b_25 := o.neNew e_25
      have S := S.trans s_25
      have o := o.sub s_25
      have szB := Nat.le_trans szB s_25.size
      have hb_9 := hb_9.sub s_25
      have sz_26 := S.size
      have ltb_9_26 := hb_9.lt
      have ltb_25_26 := hb_25.lt
      refine RL.append2 (base := w.heap.size) (rows := (ofL lv d (l.take i)).map It.cells) (news := [_]) sl26 ze29 rfl rfl rfl rfl (.inl o) (Has.slOne hb_25) rfl (by intro r hr; rw [List.mem_singleton] at hr; subst hr; rfl) rfl (by (try simp only [List.length_map, List.length_nil, List.length_append, List.length_cons]); omega) (by (try simp only [List.length_map, List.length_nil, List.length_append, List.length_cons]); omega) (by omega) rfl rfl (fun v_26 w_26 hc_26 ho_26 ag_26 ob_26 => ?_)
      have o26 := ho_26 (.inl (by simp))
      rw [show _ ++ [_] = ((ofL lv d (l.take i) ++ [x]).map It.cells) from by rw [List.map_append]; rfl] at o26
      have d_o26_b_9 := obNe ob_26 d_o_b_9 hb_9.lt
      have S := S.agrN ag_26 (fun k e => Nat.le_trans (by omega) e.2)
      have szB := Nat.le_trans szB ag_26.size
      have hb_9 := hb_9.step ag_26 (fun e => d_o_b_9 _ e.1 rfl)
      obtain ⟨a_26, c_26, rfl, k_26⟩ := o26.form
      refine RL.ev (.assign rfl) rfl rfl ?_
      refine RL.nil (RC.back ?_)
      refine RC.region rfl ?_
      refine RL.ev (.as (.bin rfl rfl rfl) (wi64 (y := ((i + 1 : Nat) : Int)) (by omega) (by omega))) rfl rfl ?_
      refine RL.ev (.move rfl) rfl rfl ?_
      exact RL.nil (fun a ka => ⟨(i + 1, a_26, _, c_26), ⟨by omega, by show Ows _ _ _ _ _ ((ofL lv d (l.take (i + 1))).map It.cells); rw [hnext]; exact o26, S⟩, by omega, ka.keep (keep_of (by repeat (first | exact trivial | refine And.intro rfl ?_)))⟩)
    ·
      have hk : ¬ dig x.k lv = d := (by have := h6; omega)
      have hnext : ofL lv d (l.take (i + 1)) = ofL lv d (l.take i) := (by unfold ofL; rw [filter_take hx, if_neg (by simp [hk]), List.append_nil])
      refine RC.skip (RC.back ?_)
      refine RC.region rfl ?_
      refine RL.ev (.as (.bin rfl rfl rfl) (wi64 (y := ((i + 1 : Nat) : Int)) (by omega) (by omega))) rfl rfl ?_
      refine RL.ev (.move rfl) rfl rfl ?_
      exact RL.nil (fun a ka => ⟨(i + 1, ao, _, co), ⟨by omega, by show Ows _ _ _ _ _ ((ofL lv d (l.take (i + 1))).map It.cells); rw [hnext]; exact o, S⟩, by omega, ka.keep (keep_of (by repeat (first | exact trivial | refine And.intro rfl ?_)))⟩)
  ·
    obtain rfl : i = l.length := (by omega)
    rw [List.take_length] at o
    refine RC.exit rfl (RC.back ?_)
    refine RC.seq ?_
    refine RC.region rfl ?_
    refine RL.ev (.move rfl) rfl rfl ?_
    refine RL.ev (.assign rfl) rfl rfl ?_
    refine RL.nil (RC.back ?_)
    refine RC.done (rs := [.tmp 6]) (vs := [_]) rfl rfl ⟨rfl, trivial⟩ ?_
    -- end 1
    exact ⟨ao, co, by rw [List.take_length]; rfl, o, S⟩
theorem c_refLeast (l : List It) (a : Option Addr) (c m : Nat) (hm : m = l.length) (h0 : 0 < l.length) (w : World) (hl : Sl w a 2 (l.map It.cells)) (hb : l.length ≤ 1000000) :
    FC Try.prog 63 [.slice a m c] w (fun u w' => Sub w w' ∧ ∃ (n : Nat) (x : It), u = .int .i64 (n : Int) ∧ l[n]? = some x ∧ ∀ y ∈ l, x.k ≤ y.k) := by
  subst hm
  obtain ⟨x0, hx0⟩ := getSome (l := l) (i := 0) h0
  refine FC.intro Try.func63 rfl Try.ntmps63 rfl ?_
  have S := Sub.refl w
  refine RC.seq ?_
  refine RC.region rfl ?_
  refine RL.ev (.assign rfl) rfl rfl ?_
  refine RL.nil (RC.back ?_)
  refine RC.seq ?_
  refine RC.region rfl ?_
  refine RL.ev (.assign rfl) rfl rfl ?_
  refine RL.nil (RC.back ?_)
  refine RC.seq ?_
  refine RC.seq ?_
  refine RC.region rfl ?_
  refine RL.ev (.move rfl) rfl rfl ?_
  refine RL.ev (.len sl26 rfl) rfl rfl ?_
  refine RL.ev (.move rfl) rfl rfl ?_
  refine RL.nil (RC.back ?_)
  refine RC.block ?_
  refine RC.loop (α := Nat × Nat × It) (fun x => [(0, .slice a l.length c), (3, .int .i64 (x.2.1 : Int)), (6, .slice a l.length c), (7, .int .i64 (l.length : Int)), (8, .int .i64 (x.1 : Int))]) (fun x w1 => (x.1 ≤ l.length ∧ l[x.2.1]? = some x.2.2 ∧ ∀ j y, j < x.1 → l[j]? = some y → x.2.2.k ≤ y.k) ∧ Sub w w1) (fun x => l.length - x.1) (0, 0, x0) (keep_of (by repeat (first | exact trivial | refine And.intro rfl ?_))) (⟨⟨Nat.zero_le _, hx0, fun j y h => absurd h (by simp only []; omega)⟩, S⟩) (fun x w1 hJ => ?_)
  obtain ⟨i, n, z⟩ := x; obtain ⟨⟨hi, hn, hp⟩, S⟩ := hJ; simp only [] at hi hn hp; have hnl := lt_of_get hn
  refine RC.seq ?_
  refine RC.region rfl ?_
  refine RL.ev (.bin rfl rfl rfl) rfl rfl ?_
  refine RL.nil (RC.back ?_)
  refine RC.seq ?_
  refine RC.cond_dec rfl (fun h2 => ?_) (fun h2 => ?_)
  ·
    have h9 := h2
    simp only [] at h9
    obtain ⟨x, hx⟩ := getSome (l := l) (i := i) (by omega)
    refine RC.skip (RC.back ?_)
    refine RC.seq ?_
    refine RC.block ?_
    refine RC.seq ?_
    refine RC.region rfl ?_
    refine RL.ev (.move rfl) rfl rfl ?_
    refine RL.ev (.indexS sl26 rfl rfl (by omega) (hl.is (i := 0) (by simp only [List.length_map, List.length_cons, List.length_nil]; omega))) rfl rfl ?_
    refine RL.ev (.loadR (x.cells) sh29 rfl ((hl.sub S).rowAt (enc := It.cells) (i := i) hx) rfl) rfl rfl ?_
    refine RL.alloc ze29 rfl rfl (fun b_5 w_5 e_5 z_5 hb_5 s_5 => ?_)
    have ge_5 := S.le e_5
    have S := S.trans s_5
    refine RL.ev (.assign rfl) rfl rfl ?_
    refine RL.store sh29 rfl rfl rfl hb_5 (by exact Nat.le_of_ble_eq_true rfl) (by rfl) rfl (fun w3 z3 hb_5 a3 => ?_)
    have S := S.upd a3 ge_5
    have hb_5 : Has w3 b_5 (x.cells) _ := hb_5.now (by kernel_rfl)
    refine RL.nil (RC.back ?_)
    refine RC.seq ?_
    refine RC.draw rfl mxo (by kernel_rfl) ?_
    refine RQ.ev (.field0 fo29_0 rfl) rfl rfl ?_
    refine RQ.ev (.load1 sh2 rfl (hb_5.cell rfl)) rfl rfl ?_
    refine RQ.ev (.move rfl) rfl rfl ?_
    refine RQ.ev (.move rfl) rfl rfl ?_
    refine RQ.ev (.indexS sl26 rfl rfl (by simp only []; omega) (hl.is (i := 0) (by simp only [List.length_map, List.length_cons, List.length_nil]; omega))) rfl rfl ?_
    refine RQ.ev (.fieldA fo29_0 rfl) rfl rfl ?_
    refine RQ.ev (.load1 sh2 rfl ((hl.sub S).cell (enc := It.cells) (j := 0) hn rfl)) rfl rfl ?_
    refine RQ.ev (.bin rfl rfl rfl) rfl rfl ?_
    refine RQ.nil (fun w4 s5 => RC.back ?_)
    have S := S.trans s5
    have hb_5 := hb_5.sub s5
    refine RC.cond_dec rfl (fun h6 => ?_) (fun h6 => ?_)
    ·
      have q : x.k < z.k := h6
      refine RC.region rfl ?_
      refine RL.ev (.move rfl) rfl rfl ?_
      refine RL.ev (.assign rfl) rfl rfl ?_
      refine RL.nil (RC.back ?_)
      refine RC.region rfl ?_
      refine RL.ev (.as (.bin rfl rfl rfl) (wi64 (y := ((i + 1 : Nat) : Int)) (by simp only []; omega) (by omega))) rfl rfl ?_
      refine RL.ev (.move rfl) rfl rfl ?_
      exact RL.nil (fun a ka => ⟨(i + 1, i, x), ⟨⟨by simp only []; omega, hx, fun j y hj hy => by simp only [] at hj ⊢; by_cases e : j = i; (rw [e, hx] at hy; cases hy; omega); (have := hp j y (by omega) hy; omega)⟩, S⟩, by simp only []; omega, ka.keep (keep_of (by repeat (first | exact trivial | refine And.intro rfl ?_)))⟩)
    ·
      have q : ¬ x.k < z.k := h6
      refine RC.skip (RC.back ?_)
      refine RC.region rfl ?_
      refine RL.ev (.as (.bin rfl rfl rfl) (wi64 (y := ((i + 1 : Nat) : Int)) (by simp only []; omega) (by omega))) rfl rfl ?_
      refine RL.ev (.move rfl) rfl rfl ?_
      exact RL.nil (fun a ka => ⟨(i + 1, n, z), ⟨⟨by simp only []; omega, hn, fun j y hj hy => by simp only [] at hj ⊢; by_cases e : j = i; (rw [e, hx] at hy; cases hy; omega); exact hp j y (by omega) hy⟩, S⟩, by simp only []; omega, ka.keep (keep_of (by repeat (first | exact trivial | refine And.intro rfl ?_)))⟩)
  ·
    have h9 := h2
    simp only [] at h9
    obtain rfl : i = l.length := (by omega)
    refine RC.exit rfl (RC.back ?_)
    refine RC.seq ?_
    refine RC.region rfl ?_
    refine RL.ev (.move rfl) rfl rfl ?_
    refine RL.ev (.assign rfl) rfl rfl ?_
    refine RL.nil (RC.back ?_)
    refine RC.done (rs := [.tmp 2]) (vs := [_]) rfl rfl ⟨rfl, trivial⟩ ?_
    -- end 1
    exact ⟨S, n, z, rfl, hn, fun y hy => by obtain ⟨j, hj⟩ := List.getElem?_of_mem hy; exact hp j y (lt_of_get hj) hj⟩
theorem c_refCrowd (l : List It) (a : Option Addr) (c m : Nat) (hm : m = l.length) (key : Int) (w : World) (hl : Sl w a 2 (l.map It.cells)) (hb : l.length ≤ 1000000) :
    FC Try.prog 17 [.slice a m c, .int .i64 key] w (Val (.int .i64 (shL key l : Int)) w) := by
  subst hm
  refine FC.intro Try.func17 rfl Try.ntmps17 rfl ?_
  have S := Sub.refl w
  refine RC.seq ?_
  refine RC.region rfl ?_
  refine RL.ev (.assign rfl) rfl rfl ?_
  refine RL.nil (RC.back ?_)
  refine RC.seq ?_
  refine RC.region rfl ?_
  refine RL.ev (.assign rfl) rfl rfl ?_
  refine RL.nil (RC.back ?_)
  refine RC.seq ?_
  refine RC.seq ?_
  refine RC.region rfl ?_
  refine RL.ev (.move rfl) rfl rfl ?_
  refine RL.ev (.len sl26 rfl) rfl rfl ?_
  refine RL.ev (.move rfl) rfl rfl ?_
  refine RL.nil (RC.back ?_)
  refine RC.block ?_
  refine RC.loop (α := Nat × Nat) (fun x_ => [(1, .int .i64 key), (5, .int .i64 (x_.2 : Int)), (8, .slice a l.length c), (9, .int .i64 (l.length : Int)), (10, .int .i64 (x_.1 : Int))]) (fun x_ w1 => (x_.1 ≤ l.length ∧ x_.2 = shL key (l.take x_.1)) ∧ Sub w w1) (fun x_ => l.length - x_.1) (0, 0) (keep_of (by repeat (first | exact trivial | refine And.intro rfl ?_))) (⟨⟨Nat.zero_le _, rfl⟩, S⟩) (fun x_ w1 hJ => ?_)
  obtain ⟨i, n⟩ := x_; obtain ⟨⟨hi, hn⟩, S⟩ := hJ; simp only [] at hi hn; have hle := shL_le key (l.take i); rw [List.length_take] at hle
  refine RC.seq ?_
  refine RC.region rfl ?_
  refine RL.ev (.bin rfl rfl rfl) rfl rfl ?_
  refine RL.nil (RC.back ?_)
  refine RC.seq ?_
  refine RC.cond_dec rfl (fun h2 => ?_) (fun h2 => ?_)
  ·
    obtain ⟨x, hx⟩ := getSome (l := l) (i := i) (by omega)
    refine RC.skip (RC.back ?_)
    refine RC.seq ?_
    refine RC.block ?_
    refine RC.seq ?_
    refine RC.region rfl ?_
    refine RL.ev (.indexS sl26 rfl rfl (by omega) (hl.is (i := 0) (by simp only [List.length_map, List.length_cons, List.length_nil]; omega))) rfl rfl ?_
    refine RL.ev (.loadR (x.cells) sh29 rfl ((hl.sub S).rowAt (enc := It.cells) (i := i) hx) rfl) rfl rfl ?_
    refine RL.alloc ze29 rfl rfl (fun b_7 w_7 e_7 z_7 hb_7 s_7 => ?_)
    have ge_7 := S.le e_7
    have S := S.trans s_7
    refine RL.store sh29 rfl rfl rfl hb_7 (by exact Nat.le_of_ble_eq_true rfl) (by rfl) rfl (fun w3 z3 hb_7 a3 => ?_)
    have S := S.upd a3 ge_7
    have hb_7 : Has w3 b_7 (x.cells) _ := hb_7.now (by kernel_rfl)
    refine RL.nil (RC.back ?_)
    refine RC.seq ?_
    refine RC.region rfl ?_
    refine RL.ev (.field0 fo29_0 rfl) rfl rfl ?_
    refine RL.ev (.load1 sh2 rfl (hb_7.cell rfl)) rfl rfl ?_
    refine RL.call rfl ok44 (c_refRank x.k w3) rfl rfl ?_
    rintro _ w4 ⟨rfl, s5⟩
    have S := S.trans s5
    have hb_7 := hb_7.sub s5
    refine RL.ev (.as (v' := .int .u64 (hashOf x.k : Int)) (.rem rfl rfl (by decide)) (by exact rem_hash x.k)) rfl rfl ?_
    refine RL.ev (.move rfl) rfl rfl ?_
    refine RL.call rfl ok44 (c_refRank key w4) rfl rfl ?_
    rintro _ w6 ⟨rfl, s7⟩
    have S := S.trans s7
    have hb_7 := hb_7.sub s7
    refine RL.ev (.as (v' := .int .u64 (hashOf key : Int)) (.rem rfl rfl (by decide)) (by exact rem_hash key)) rfl rfl ?_
    refine RL.ev (.bin rfl rfl rfl) rfl rfl ?_
    refine RL.nil (RC.back ?_)
    refine RC.cond_dec rfl (fun h8 => ?_) (fun h8 => ?_)
    ·
      have hk : hashOf x.k = hashOf key := (by have := h8; omega)
      have hnext : shL key (l.take (i + 1)) = shL key (l.take i) + 1 := (by unfold shL; rw [filter_take hx, if_pos (decide_eq_true hk), List.length_append]; rfl)
      refine RC.region rfl ?_
      refine RL.ev (.move rfl) rfl rfl ?_
      refine RL.ev (.as (.bin rfl rfl rfl) (wi64 (y := ((n + 1 : Nat) : Int)) (by omega) (by omega))) rfl rfl ?_
      refine RL.ev (.assign rfl) rfl rfl ?_
      refine RL.nil (RC.back ?_)
      refine RC.region rfl ?_
      refine RL.ev (.as (.bin rfl rfl rfl) (wi64 (y := ((i + 1 : Nat) : Int)) (by omega) (by omega))) rfl rfl ?_
      refine RL.ev (.move rfl) rfl rfl ?_
      exact RL.nil (fun a ka => ⟨(i + 1, n + 1), ⟨⟨by omega, by simp only []; rw [hnext, hn]⟩, S⟩, by omega, ka.keep (keep_of (by repeat (first | exact trivial | refine And.intro rfl ?_)))⟩)
    ·
      have hk : ¬ hashOf x.k = hashOf key := (by have := h8; omega)
      have hnext : shL key (l.take (i + 1)) = shL key (l.take i) := (by unfold shL; rw [filter_take hx, if_neg (by simp [hk]), List.append_nil])
      refine RC.skip (RC.back ?_)
      refine RC.region rfl ?_
      refine RL.ev (.as (.bin rfl rfl rfl) (wi64 (y := ((i + 1 : Nat) : Int)) (by omega) (by omega))) rfl rfl ?_
      refine RL.ev (.move rfl) rfl rfl ?_
      exact RL.nil (fun a ka => ⟨(i + 1, n), ⟨⟨by omega, by simp only []; rw [hnext, hn]⟩, S⟩, by omega, ka.keep (keep_of (by repeat (first | exact trivial | refine And.intro rfl ?_)))⟩)
  ·
    obtain rfl : i = l.length := (by omega)
    rw [List.take_length] at hn
    refine RC.exit rfl (RC.back ?_)
    refine RC.seq ?_
    refine RC.region rfl ?_
    refine RL.ev (.move rfl) rfl rfl ?_
    refine RL.ev (.assign rfl) rfl rfl ?_
    refine RL.nil (RC.back ?_)
    refine RC.done (rs := [.tmp 4]) (vs := [_]) rfl rfl ⟨rfl, trivial⟩ ?_
    -- end 1
    rw [hn]
    exact ⟨rfl, S⟩
end Go.Proofs.Ytbfjobmebkhblaa
set_option linter.unusedVariables false
set_option linter.unusedSimpArgs false
namespace Go.Proofs.Ytbfjobmebkhblaa
open Go Go.XL
theorem srt_exists : ∀ {l : List It}, Ap l → ∃ m, List.Perm m l ∧ Srt m
  | [], _ => ⟨[], List.Perm.refl _, List.Pairwise.nil⟩
  | x :: l, h => by
    obtain ⟨h1, h2⟩ := List.pairwise_cons.1 h
    obtain ⟨m, p, s⟩ := srt_exists h2
    refine ⟨putL m x.k x.v, putL_putM.trans ?_, s.put⟩
    unfold putM
    rw [delL_none fun y hy e => h1 y (p.mem_iff.1 hy) e.symm]
    exact List.Perm.cons x p
/-- the least of what is left -/
theorem least_is {m rest : List It} {i n : Nat} {x : It} (hs : Srt m) (hp : rest.Perm (m.drop i)) (hx : rest[n]? = some x) (hle : ∀ y ∈ rest, x.k ≤ y.k) : m[i]? = some x ∧ (rest.take n ++ rest.drop (n + 1)).Perm (m.drop (i + 1)) := by
  have hxm := hp.mem_iff.1 (List.mem_of_getElem? hx)
  have hne : i < m.length := by
    have := List.length_pos_of_mem hxm
    rw [List.length_drop] at this; omega
  obtain ⟨z, hz⟩ := getSome (l := m) hne
  have hd : m.drop i = z :: m.drop (i + 1) := by rw [List.drop_eq_getElem_cons hne, getElem_of hz]
  have hsd : Srt (m.drop i) := List.Pairwise.sublist (List.drop_sublist _ _) hs
  rw [hd] at hsd hxm hp
  have hzx : z = x := by
    rcases List.mem_cons.1 hxm with e | h
    · exact e.symm
    · have h1 := (List.pairwise_cons.1 hsd).1 x h
      have h2 := hle z (hp.mem_iff.2 (by simp))
      omega
  subst hzx
  refine ⟨hz, ?_⟩
  have e := split_at hx
  rw [e] at hp
  exact List.Perm.cons_inv (List.perm_middle.symm.trans hp)
end Go.Proofs.Ytbfjobmebkhblaa
set_option linter.unusedVariables false
set_option linter.unusedSimpArgs false
namespace Go.Proofs.Ytbfjobmebkhblaa
open Go Go.XL
/-- the keys and values of a table as its nodes stand -/
def rdF (A : Ar) : Nat → Int → List It
  | 0, _ => []
  | k + 1, r => match getA A r with
    | none => []
    | some y => if y.kind = 3 then [⟨y.n, y.v⟩] else y.kids.flatMap (rdF A k)
theorem rdF_no {A : Ar} {k : Nat} {r : Int} (h : getA A r = none) : rdF A k r = [] := by cases k with | zero => rfl | succ k => rw [rdF, h]
theorem rdF_leaf {A : Ar} {k : Nat} {r : Int} {x : It} (h : lfA A r x) : rdF A (k + 1) r = [x] := by obtain ⟨g, h⟩ := h; rw [rdF, h]; rfl
theorem rdF_node {A : Ar} {k : Nat} {r : Int} {y : Node} (h : getA A r = some y) (h3 : ¬ y.kind = 3) : rdF A (k + 1) r = y.kids.flatMap (rdF A k) := by rw [rdF, h]; exact if_neg h3
theorem kids4 {α : Type} {y : Node} (h : ∀ j, 4 ≤ j → j < 9 → y.kids.getD j 0 = 0) (f : Int → List α) (f0 : f 0 = []) : y.kids.flatMap f = f (y.kids.getD 0 0) ++ (f (y.kids.getD 1 0) ++ (f (y.kids.getD 2 0) ++ f (y.kids.getD 3 0))) := by
  have h4 : y.k4 = 0 := h 4 (by omega) (by omega)
  have h5 : y.k5 = 0 := h 5 (by omega) (by omega)
  have h6 : y.k6 = 0 := h 6 (by omega) (by omega)
  have h7 : y.k7 = 0 := h 7 (by omega) (by omega)
  have h8 : y.k8 = 0 := h 8 (by omega) (by omega)
  simp only [Node.kids, List.flatMap_cons, List.flatMap_nil, h4, h5, h6, h7, h8, f0, List.append_nil, List.nil_append]
  rfl
theorem trie_zero {A : Ar} {k : Nat} {r : Int} {L : List It} (h : IsH A (k + 1) r L) (hl : 2 ≤ L.length) : ∃ y, getA A r = some y ∧ y.kind = 2 ∧ y.s = L.length ∧ (∀ i, i < 4 → IsH A k (y.kids.getD i 0) (ofL (9 - k) i L)) ∧ ∀ j, 4 ≤ j → j < 9 → y.kids.getD j 0 = 0 := by
  obtain ⟨g, ks, h1, h2, h3⟩ := (isH_trie hl).1 h
  exact ⟨_, h2, rfl, rfl, fun i hi => by rw [hN_kid (by omega)]; exact h3 i hi, fun j h4 h9 => by rw [hN_kid h9, List.getD_eq_getElem?_getD, List.getElem?_eq_none (by omega)]; rfl⟩
theorem flat_leaves {α : Type} {f : Int → List α} {g : It → α} : ∀ (ks : List Int) (m : List It), (∀ i x, m[i]? = some x → f (ks.getD i 0) = [g x]) → (∀ i, m.length ≤ i → i < ks.length → f (ks.getD i 0) = []) → m.length ≤ ks.length → ks.flatMap f = m.map g
  | [], m, _, _, hl => by rw [List.eq_nil_of_length_eq_zero (show m.length = 0 by simpa using hl)]; rfl
  | z :: ks, [], h1, h2, _ => by
    have h0 := h2 0 (Nat.zero_le _) (by simp)
    have ih := flat_leaves ks [] (fun i x h => by cases h) (fun i _ hi => h2 (i + 1) (Nat.zero_le _) (by simpa using hi)) (Nat.zero_le _) (g := g)
    rw [List.flatMap_cons, ih]
    exact (congrArg (· ++ _) h0).trans rfl
  | z :: ks, x :: m, h1, h2, hl => by
    have h0 := h1 0 x rfl
    have ih := flat_leaves ks m (fun i y hy => h1 (i + 1) y hy) (fun i h3 h4 => h2 (i + 1) (by simpa using h3) (by simpa using h4)) (by simpa using hl)
    rw [List.flatMap_cons, ih]
    exact (congrArg (· ++ _) h0).trans rfl
theorem rd_clash {A : Ar} {f : Nat} {r : Int} {y : Node} {m : List It} (hy : getA A r = some y) (h4 : y.kind = 4) (hm9 : m.length ≤ 9) (hlf : ∀ i x, m[i]? = some x → lfA A (y.kids.getD i 0) x) (hz : ∀ i, m.length ≤ i → i < 9 → y.kids.getD i 0 = 0) : rdF A (f + 2) r = m := by
  rw [rdF_node hy (by omega), flat_leaves (g := id) y.kids m (fun i x hx => rdF_leaf (hlf i x hx)) (fun i h1 h2 => by rw [hz i h1 h2]; exact rdF_no (getA_z A)) hm9, List.map_id]
theorem rd_perm {A : Ar} : ∀ {k f : Nat} {r : Int} {L : List It}, IsH A k r L → (rdF A (k + f + 2) r).Perm L
  | k, f, r, L, h => by
    rcases row_cases L with rfl | ⟨x, rfl⟩ | h2
    · rw [isH_nil.1 h, rdF_no (getA_z A)]
    · rw [rdF_leaf (isH_one.1 h)]
    · cases k with
      | zero =>
        obtain ⟨y, m, q1, q2, _, q3, _, _, q6, q7, q8⟩ := clash_node ((isH_clash h2).1 h) h2
        rw [rd_clash q1 q2 q6 q7 q8]; exact q3
      | succ k =>
        obtain ⟨y, q1, q2, _, q4, q5⟩ := trie_zero h h2
        rw [show k + 1 + f + 2 = (k + f + 2) + 1 by omega, rdF_node q1 (by omega), kids4 q5 _ (rdF_no (getA_z A))]
        exact ((rd_perm (f := f) (q4 0 (by omega))).append ((rd_perm (f := f) (q4 1 (by omega))).append ((rd_perm (f := f) (q4 2 (by omega))).append (rd_perm (f := f) (q4 3 (by omega)))))).trans (part_perm (9 - k) L)
theorem IsH.some {A : Ar} {k : Nat} {r : Int} {L : List It} (h : IsH A k r L) (hl : ¬ L = []) : ∃ y, getA A r = some y := by
  rcases row_cases L with rfl | ⟨x, rfl⟩ | h2
  · exact absurd rfl hl
  · obtain ⟨g, e⟩ := isH_one.1 h; exact ⟨_, e⟩
  · obtain ⟨_, _, _, _, e⟩ := h.node h2; exact ⟨_, e⟩
end Go.Proofs.Ytbfjobmebkhblaa
set_option linter.unusedVariables false
set_option linter.unusedSimpArgs false
namespace Go.Proofs.Ytbfjobmebkhblaa
open Go Go.XL
abbrev Rh := List Int × List It × Bool
end Go.Proofs.Ytbfjobmebkhblaa
set_option linter.unusedVariables false
set_option linter.unusedSimpArgs false
namespace Go.Proofs.Ytbfjobmebkhblaa
open Go Go.XL
/-- what is kept while a table is read -/
structure RhOk (N : Nat) (t : Rh) : Prop where
  nd : t.1.Nodup
  rng : ∀ p ∈ t.1, 0 ≤ p ∧ p < N
  row : t.2.1.length ≤ t.1.length
theorem RhOk.len {N : Nat} {t : Rh} (h : RhOk N t) : t.1.length ≤ N := pigeon N t.1 h.nd h.rng
theorem RhOk.off {N : Nat} {t : Rh} (h : RhOk N t) : RhOk N (t.1, t.2.1, false) := ⟨h.nd, h.rng, h.row⟩
theorem RhOk.add {N : Nat} {t : Rh} (h : RhOk N t) {p : Int} (hp : 0 ≤ p ∧ p < N) (hn : ¬ p ∈ t.1) (b : Bool) : RhOk N (t.1 ++ [p], t.2.1, b) := by
  refine ⟨List.nodup_append.2 ⟨h.nd, by simp, fun a ha c hc e => ?_⟩, fun q hq => ?_, ?_⟩
  · rw [List.mem_singleton.1 hc] at e; exact hn (e ▸ ha)
  · rcases List.mem_append.1 hq with hq | hq
    · exact h.rng q hq
    · rw [List.mem_singleton.1 hq]; exact hp
  · have := h.row; rw [List.length_append]; simp only [List.length_singleton]; omega
end Go.Proofs.Ytbfjobmebkhblaa
set_option linter.unusedVariables false
set_option linter.unusedSimpArgs false
namespace Go.Proofs.Ytbfjobmebkhblaa
open Go Go.XL
def refOk (n : Nat) (r : Int) : Prop := r = 0 ∨ ∃ j : Nat, r = (j : Int) + 1 ∧ j < n
theorem refOk.u64 {n : Nat} {r : Int} (h : refOk n r) (hn : n ≤ 1000000) : U64 r := by
  rcases h with rfl | ⟨j, rfl, h⟩
  · exact zu64
  · unfold U64; omega
theorem refOk.right {n : Nat} {r : Int} (h : refOk n r) (hn : n ≤ 512) : rightR r = true := by
  rcases h with rfl | ⟨j, rfl, h⟩
  · exact (show rightR 0 = true by decide)
  · exact (place_of_at (a := j) (by omega)).2.2.2
/-- nodes that are laid -/
def GoodH (n : Nat) (l : List It) (y : Node) : Prop := ¬ y.kind = 0 ∧ (n ≤ 512 → well y = true) ∧ ((∀ z ∈ l, z.ok) → y.ok)
theorem GoodH.mono {n : Nat} {l m : List It} {y : Node} (h : GoodH n l y) (hm : ∀ z ∈ l, z ∈ m) : GoodH n m y := ⟨h.1, h.2.1, fun hz => h.2.2 fun z q => hz z (hm z q)⟩
structure LyH (ns : List Node) (at_ k : Nat) (l : List It) (ns' : List Node) (r : Int) : Prop where
  len : ns'.length = ns.length
  same : ∀ i : Nat, (i < at_ ∨ at_ + cnt k l ≤ i) → ns'[i]? = ns[i]?
  isH : ns.length ≤ 512 → ∀ A : Ar, (∀ i : Nat, at_ ≤ i → i < at_ + cnt k l → A.nodes[i]? = ns'[i]?) → IsH A k r l
  good : ∀ (i : Nat) y, at_ ≤ i → i < at_ + cnt k l → ns'[i]? = some y → GoodH ns.length l y
  ref : refOk ns.length r
/-- tables that are laid one behind the other -/
structure LyF (ns : List Node) (at_ k : Nat) (ps : List (List It)) (ns' : List Node) (ks : List Int) : Prop where
  kl : ks.length = ps.length
  len : ns'.length = ns.length
  same : ∀ i : Nat, (i < at_ ∨ at_ + (ps.map (cnt k)).sum ≤ i) → ns'[i]? = ns[i]?
  isH : ns.length ≤ 512 → ∀ A : Ar, (∀ i : Nat, at_ ≤ i → i < at_ + (ps.map (cnt k)).sum → A.nodes[i]? = ns'[i]?) → ∀ j, j < ps.length → IsH A k (ks.getD j 0) (ps.getD j [])
  good : ∀ (i : Nat) y, at_ ≤ i → i < at_ + (ps.map (cnt k)).sum → ns'[i]? = some y → GoodH ns.length ps.flatten y
  ref : ∀ z ∈ ks, refOk ns.length z
theorem LyF.nil (ns : List Node) (at_ k : Nat) : LyF ns at_ k [] ns [] :=
  ⟨rfl, rfl, fun _ _ => rfl, fun _ _ _ j h => absurd h (by simp), fun i y h1 h2 => absurd h2 (by simp; omega), fun z h => by cases h⟩
theorem getD_snoc {α : Type} {l : List α} {x d : α} {j n : Nat} (hl : l.length = n) : (j < n → (l ++ [x]).getD j d = l.getD j d) ∧ (l ++ [x]).getD n d = x := by
  subst hl
  constructor
  · intro h; rw [List.getD_eq_getElem?_getD, List.getD_eq_getElem?_getD, List.getElem?_append_left h]
  · rw [List.getD_eq_getElem?_getD, List.getElem?_append_right (Nat.le_refl _), Nat.sub_self]; rfl
theorem sum_snoc (l : List Nat) (x : Nat) : (l ++ [x]).sum = l.sum + x := by simp [List.sum_append]
theorem LyF.step {ns n1 n2 : List Node} {at_ k a1 : Nat} {ps : List (List It)} {ks : List Int} {q : List It} {r : Int} (h : LyF ns at_ k ps n1 ks) (ha : a1 = at_ + (ps.map (cnt k)).sum) (g : LyH n1 a1 k q n2 r) : LyF ns at_ k (ps ++ [q]) n2 (ks ++ [r]) := by
  subst ha
  have es : ((ps ++ [q]).map (cnt k)).sum = (ps.map (cnt k)).sum + cnt k q := by rw [List.map_append]; exact sum_snoc _ _
  have hl := h.len
  refine ⟨by rw [List.length_append, List.length_append, h.kl]; rfl, by rw [g.len, h.len], fun i hi => ?_, fun h5 A hA j hj => ?_, fun i y h1 h2 hy => ?_, fun z hz => ?_⟩
  · rw [es] at hi
    rw [g.same i (by omega), h.same i (by omega)]
  · rw [es] at hA
    rw [List.length_append] at hj
    by_cases e : j < ps.length
    · rw [(getD_snoc h.kl).1 e, (getD_snoc rfl).1 e]
      exact h.isH h5 A (fun i h1 h2 => by rw [hA i h1 (by omega), g.same i (by omega)]) j e
    · obtain rfl : j = ps.length := by simp at hj; omega
      rw [(getD_snoc (j := 0) h.kl).2, (getD_snoc (j := 0) rfl).2]
      exact g.isH (by rw [hl]; exact h5) A (fun i h1 h2 => hA i (by omega) (by omega))
  · rw [es] at h2
    by_cases e : i < at_ + (ps.map (cnt k)).sum
    · rw [g.same i (by omega)] at hy
      exact (h.good i y h1 e hy).mono fun z hz => by rw [List.flatten_append]; exact List.mem_append_left _ hz
    · have := g.good i y (by omega) (by omega) hy
      rw [hl] at this
      exact this.mono fun z hz => by rw [List.flatten_append]; exact List.mem_append_right _ (by simpa using hz)
  · rcases List.mem_append.1 hz with hz | hz
    · exact h.ref z hz
    · rw [List.mem_singleton.1 hz, ← hl]; exact g.ref
theorem ly_nil (ns : List Node) (at_ k : Nat) : LyH ns at_ k [] ns 0 :=
  ⟨rfl, fun _ _ => rfl, fun _ _ _ => isH_nil.2 rfl, fun i y h1 h2 => absurd h2 (by rw [cnt_nil]; omega), .inl rfl⟩
theorem get_placed {A : Ar} {ns : List Node} {a : Nat} {y : Node} (h5 : ns.length ≤ 512) (ha : a < ns.length) (hA : A.nodes[a]? = some y) (hk : ¬ y.kind = 0) (hg : y.gen = 0) : getA A ((a : Int) + 1) = some y := by
  have hp := place_of_at (a := a) (by omega)
  have hpp : (placeR ((a : Int) + 1)).toNat = a := by rw [hp.1]; exact Int.toNat_natCast _
  rw [getA_at (x := y) (by rw [hp.1]; omega) (by rw [hpp]; exact hA), if_neg]
  rintro (e | e)
  · exact hk e
  · exact e (hg.trans hp.2.1.symm)
theorem ly_leaf {ns : List Node} {at_ k : Nat} {x : It} (h : at_ < ns.length) : LyH ns at_ k [x] (ns.set at_ (hN 3 0 x.k x.v 0 [])) ((at_ : Int) + 1) := by
  have hc : cnt k [x] = 1 := cnt_few (by simp)
  refine ⟨List.length_set, fun i hi => ?_, fun h5 A hA => ?_, fun i y h1 h2 hy => ?_, .inr ⟨at_, rfl, h⟩⟩
  · rw [hc] at hi
    exact List.getElem?_set_ne (by omega)
  · rw [hc] at hA
    have h0 := hA at_ (Nat.le_refl _) (by omega)
    rw [List.getElem?_set_self h] at h0
    exact isH_one.2 ⟨0, get_placed h5 h h0 (show ¬ (3 : Int) = 0 by decide) rfl⟩
  · rw [hc] at h2
    obtain rfl : i = at_ := by omega
    rw [List.getElem?_set_self h] at hy
    cases hy
    refine ⟨(show ¬ (3 : Int) = 0 by decide), fun _ => rfl, fun hz => ?_⟩
    have := hz x (by simp)
    exact hN_ok (by unfold I64; omega) z64 this.1 this.2 z64 (fun k h => by cases h)
theorem getD_ref {n : Nat} {ks : List Int} (h : ∀ z ∈ ks, refOk n z) (i : Nat) : refOk n (ks.getD i 0) := by
  rw [List.getD_eq_getElem?_getD]
  cases e : ks[i]? with
  | none => exact .inl rfl
  | some z => exact h z (List.mem_of_getElem? e)
theorem ly_node {ns n1 : List Node} {at_ k k1 a1 : Nat} {ps : List (List It)} {ks : List Int} {l : List It} {kd : Int} (h : LyF ns at_ k1 ps n1 ks) (ha : a1 = at_ + (ps.map (cnt k1)).sum) (hlt : a1 < ns.length) (hns : ns.length ≤ 1000000) (hll : l.length ≤ 1000000) (hkd : 1 ≤ kd ∧ kd ≤ 100) (hc : cnt k l = (ps.map (cnt k1)).sum + 1) (hp : ∀ z ∈ ps.flatten, z ∈ l)
    (hi : ∀ A : Ar, getA A ((a1 : Int) + 1) = some (hN kd 0 0 0 l.length ks) → (∀ j, j < ps.length → IsH A k1 (ks.getD j 0) (ps.getD j [])) → IsH A k ((a1 : Int) + 1) l) : LyH ns at_ k l (n1.set a1 (hN kd 0 0 0 l.length ks)) ((a1 : Int) + 1) := by
  have hl := h.len
  refine ⟨by rw [List.length_set, hl], fun i hi => ?_, fun h5 A hA => ?_, fun i y h1 h2 hy => ?_, .inr ⟨a1, rfl, hlt⟩⟩
  · rw [hc] at hi
    rw [List.getElem?_set_ne (by omega), h.same i (by omega)]
  · rw [hc] at hA
    have h0 := hA a1 (by omega) (by omega)
    rw [List.getElem?_set_self (by omega)] at h0
    exact hi A (get_placed h5 hlt h0 (show ¬ kd = 0 by omega) rfl) (h.isH h5 A fun i h1 h2 => by rw [hA i h1 (by omega), List.getElem?_set_ne (by omega)])
  · rw [hc] at h2
    by_cases e : i = a1
    · subst e
      rw [List.getElem?_set_self (by omega)] at hy
      cases hy
      refine ⟨(show ¬ kd = 0 by omega), fun h5 => (well_iff _).2 ⟨⟨Int.le_refl 0, (show (0 : Int) ≤ 1048576 by omega), Int.le_refl 0, (show (0 : Int) ≤ 9 by omega), Int.le_refl 0, (show (0 : Int) ≤ 9 by omega)⟩, ?_⟩, fun _ => ?_⟩
      · have q := fun i => (getD_ref h.ref i).right h5
        simp only [hN, Node.kids, List.all_cons, List.all_nil, q, Bool.and_true]
      · exact hN_ok (by unfold I64; omega) z64 z64 z64 (by unfold I64; omega) (fun z hz => (h.ref z hz).u64 hns)
    · rw [List.getElem?_set_ne (fun q => e q.symm)] at hy
      exact (h.good i y h1 (by omega) hy).mono hp
def partsT (k : Nat) (l : List It) (i : Nat) : List (List It) := (List.range i).map fun j => ofL (9 - k) j l
theorem partsT_succ (k : Nat) (l : List It) (i : Nat) : partsT k l (i + 1) = partsT k l i ++ [ofL (9 - k) i l] := by unfold partsT; rw [List.range_succ, List.map_append]; rfl
theorem partsT_len (k : Nat) (l : List It) (i : Nat) : (partsT k l i).length = i := by simp [partsT]
theorem partsT_get (k : Nat) (l : List It) {i j : Nat} (h : j < i) : (partsT k l i).getD j [] = ofL (9 - k) j l := by
  unfold partsT; rw [List.getD_eq_getElem?_getD, List.getElem?_map, List.getElem?_range h]; rfl
theorem partsT_sum {k : Nat} {l : List It} (h : 2 ≤ l.length) : cnt (k + 1) l = ((partsT k l 4).map (cnt k)).sum + 1 := by
  rw [cnt_s h]; simp [partsT, List.range_succ, List.sum_append]; omega
theorem partsT_le {k : Nat} {l : List It} (i : Nat) (hi : i < 4) : ((partsT k l i).map (cnt k)).sum + cnt k (ofL (9 - k) i l) ≤ ((partsT k l 4).map (cnt k)).sum := by
  rcases (show i = 0 ∨ i = 1 ∨ i = 2 ∨ i = 3 by omega) with rfl | rfl | rfl | rfl <;> simp [partsT, List.range_succ, List.sum_append] <;> omega
theorem partsT_mem {k : Nat} {l : List It} : ∀ i, ∀ z ∈ (partsT k l i).flatten, z ∈ l := by
  intro i z hz
  obtain ⟨q, h1, h2⟩ := List.mem_flatten.1 hz
  unfold partsT at h1
  obtain ⟨j, _, rfl⟩ := List.mem_map.1 h1
  exact (ofL_mem.1 h2).1
theorem ly_trie {ns n1 : List Node} {at_ k a1 : Nat} {ks : List Int} {l : List It} (h : LyF ns at_ k (partsT k l 4) n1 ks) (ha : a1 = at_ + ((partsT k l 4).map (cnt k)).sum) (hlt : a1 < ns.length) (hns : ns.length ≤ 1000000) (hll : l.length ≤ 1000000) (hl : 2 ≤ l.length) : LyH ns at_ (k + 1) l (n1.set a1 (hN 2 0 0 0 l.length ks)) ((a1 : Int) + 1) :=
  ly_node h ha hlt hns hll ⟨by decide, by decide⟩ (partsT_sum hl) (partsT_mem 4) fun A hg hj => (isH_trie hl).2 ⟨0, ks, by rw [h.kl, partsT_len], hg, fun i hi => by
    have := hj i (by rw [partsT_len]; exact hi)
    rwa [partsT_get k l hi] at this⟩
def partsC (m : List It) (i : Nat) : List (List It) := (m.take i).map fun x => [x]
theorem partsC_succ {m : List It} {i : Nat} {x : It} (h : m[i]? = some x) : partsC m (i + 1) = partsC m i ++ [[x]] := by unfold partsC; rw [List.take_add_one, h, List.map_append]; rfl
theorem partsC_len {m : List It} {i : Nat} (h : i ≤ m.length) : (partsC m i).length = i := by simp [partsC]; omega
theorem partsC_get {m : List It} {i j : Nat} {x : It} (h : m[j]? = some x) (hj : j < i) : (partsC m i).getD j [] = [x] := by
  unfold partsC; rw [List.getD_eq_getElem?_getD, List.getElem?_map, List.getElem?_take_of_lt hj, h]; rfl
theorem partsC_sum {m : List It} {i : Nat} (h : i ≤ m.length) : ((partsC m i).map (cnt 0)).sum = i := by
  have e : (partsC m i).map (cnt 0) = List.replicate i 1 := by
    unfold partsC
    rw [List.map_map]
    apply List.ext_getElem
    · simp; omega
    · intro j h1 h2; simp [cnt_few]
  rw [e]; simp
theorem partsC_mem {m l : List It} (hp : m.Perm l) (i : Nat) : ∀ z ∈ (partsC m i).flatten, z ∈ l := by
  intro z hz
  obtain ⟨q, h1, h2⟩ := List.mem_flatten.1 hz
  unfold partsC at h1
  obtain ⟨x, hx, rfl⟩ := List.mem_map.1 h1
  rw [List.mem_singleton.1 h2]
  exact hp.mem_iff.1 (List.mem_of_mem_take hx)
theorem ly_clash {ns n1 : List Node} {at_ a1 : Nat} {ks : List Int} {l m : List It} (hp : m.Perm l) (hs : Srt m) (h9 : l.length ≤ 9) (h : LyF ns at_ 0 (partsC m l.length) n1 ks) (ha : a1 = at_ + l.length) (hlt : a1 < ns.length) (hns : ns.length ≤ 1000000) (hl : 2 ≤ l.length) : LyH ns at_ 0 l (n1.set a1 (hN 4 0 0 0 l.length ks)) ((a1 : Int) + 1) := by
  have hml := hp.length_eq
  have hsum : ((partsC m l.length).map (cnt 0)).sum = l.length := partsC_sum (by omega)
  refine ly_node h (by rw [hsum]; exact ha) hlt hns (by omega) ⟨by decide, by decide⟩ (by rw [hsum, cnt_0 hl]; omega) (partsC_mem hp _) fun A hg hj => (isH_clash hl).2 ⟨0, ks, m, hp, hs, by omega, by rw [h.kl, partsC_len (by omega)]; omega, by rw [hml]; exact hg, fun i x hx => ?_⟩
  have hi := lt_of_get hx
  have := hj i (by rw [partsC_len (by omega)]; omega)
  rw [partsC_get hx (by omega)] at this
  exact isH_one.1 this
theorem kids_put (kd g s : Int) (ks : List Int) (z : Int) {j : Nat} (hj : j = ks.length) (h : j < 9) : splice (hN kd g 0 0 s ks).cells (5 + (j : Int).toNat * 1) [u6 z] = (hN kd g 0 0 s (ks ++ [z])).cells := by
  subst hj
  rcases ks with _|⟨a, _|⟨b, _|⟨c, _|⟨d, _|⟨e, _|⟨f, _|⟨g, _|⟨i, _|⟨j, ks⟩⟩⟩⟩⟩⟩⟩⟩⟩
  all_goals first | rfl | (simp at h; omega)
structure BldH (size : Nat) (l : List It) (A : Ar) (r : Int) : Prop where
  len : A.nodes.length = size
  free : A.free.length = size - cnt 10 l
  ok : 1 ≤ size → size ≤ 512 → AOk A
  isH : size ≤ 512 → IsH A 10 r l
  nok : (∀ z ∈ l, z.ok) → ∀ y ∈ A.nodes, y.ok
  u : U64 r
theorem bld_ok {size : Nat} {l : List It} {ns : List Node} {r : Int} (h : cnt 10 l ≤ size) (hsz : size ≤ 1000000) (o : LyH (List.replicate size (bareN 0)) 0 10 l ns r) : BldH size l ⟨ns, freeB size (size - cnt 10 l)⟩ r := by
  have hrep : (List.replicate size (bareN 0)).length = size := List.length_replicate
  have hl : ns.length = size := by rw [o.len, hrep]
  have hout : ∀ (i : Nat) y, cnt 10 l ≤ i → ns[i]? = some y → y = bareN 0 := fun i y hi hy => by
    rw [o.same i (by omega)] at hy
    exact (List.mem_replicate.1 (List.mem_of_getElem? hy)).2
  have hin : ∀ (i : Nat) y, i < cnt 10 l → ns[i]? = some y → GoodH size l y := fun i y hi hy => by
    have := o.good i y (by omega) (by omega) hy
    rwa [hrep] at this
  refine ⟨hl, freeB_len _ _, fun h1 h2 => ⟨by show 1 ≤ ns.length; omega, by show ns.length ≤ 512; omega, ?_, ?_, freeB_nodup _ _, ?_, ?_, ?_⟩, fun h5 => o.isH (by rw [hrep]; exact h5) _ (fun i _ _ => rfl), ?_, (by have := o.ref; rw [hrep] at this; exact this.u64 hsz)⟩
  · show (freeB _ _).length ≤ ns.length
    rw [freeB_len]; omega
  · intro x hx; have := freeB_mem.1 hx; show 0 ≤ x ∧ x < (ns.length : Int); omega
  · intro x hx
    obtain ⟨i, hi⟩ := List.getElem?_of_mem hx
    by_cases q : i < cnt 10 l
    · exact (hin i x q hi).2.1 h2
    · rw [hout i x (by omega) hi]; decide
  · intro i x hx
    have hi := lt_of_get hx
    simp only [] at hi
    by_cases q : i < cnt 10 l
    · have := (hin i x q hx).1
      constructor
      · intro e; exact absurd e this
      · intro hm; have := freeB_mem.1 hm; omega
    · rw [hout i x (by omega) hx]
      exact ⟨fun _ => freeB_mem.2 (by omega), fun _ => rfl⟩
  · intro i x hx hm
    have hi := lt_of_get hx
    have := freeB_mem.1 hm
    simp only [] at hi
    rw [hout i x (by omega) hx]; rfl
  · intro hok y hy
    obtain ⟨i, hi⟩ := List.getElem?_of_mem hy
    by_cases q : i < cnt 10 l
    · exact (hin i y q hi).2.2 hok
    · rw [hout i y (by omega) hi]; exact bareN_ok z64
end Go.Proofs.Ytbfjobmebkhblaa
