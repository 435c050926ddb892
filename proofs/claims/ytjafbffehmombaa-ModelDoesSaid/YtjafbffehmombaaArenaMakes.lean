/-
  The statement ArenaMakes.
-/
import Derived.Test.YtjafbffehmombaaArenaLaws
set_option linter.unusedVariables false
set_option linter.unusedSimpArgs false
namespace Go.Proofs.Ytjafbffehmombaa
open Go Go.XL

theorem ar0_I (w w' : World) (na fa : Option Addr) (A : Ar) : ArI w w' na fa A none none ar0 := fun N _ _ u _ => ⟨Sl.nil _ _ _, Sl.nil _ _ _, by simp [ar0], by simp [ar0]⟩
/-- what is answered of a call, in one form -/
theorem make_form {A : Ar} {x : Node} {w w' : World} {na fa : Option Addr} {v : Value} (h : ¬ mayMake A x ∧ v = .tuple #[arV0, .int .u64 0, .int .i64 1] ∨ mayMake A x ∧ A.free.length = 0 ∧ v = .tuple #[arV0, .int .u64 0, .int .i64 2] ∨
      mayMake A x ∧ 0 < A.free.length ∧ ∃ av, v = .tuple #[av, .int .u64 (makeR A), .int .i64 0] ∧ ArO w w' na fa A av (makeA A x)) :
    ∃ na' fa' nc' fc' B r e, v = .tuple #[arV na' fa' nc' fc' B, .int .u64 r, .int .i64 e] ∧ B.nodes.length ≤ nc' ∧ B.free.length ≤ fc' ∧ ArI w w' na fa A na' fa' B ∧
      (e = 0 → mayMake A x ∧ 0 < A.free.length ∧ B = makeA A x ∧ r = makeR A) ∧ (¬ e = 0 → B = ar0 ∧ r = 0 ∧ (¬ mayMake A x ∧ e = 1 ∨ mayMake A x ∧ A.free.length = 0 ∧ e = 2)) := by
  rcases h with ⟨h1, rfl⟩ | ⟨h1, h2, rfl⟩ | ⟨h1, h2, av, rfl, na', fa', nc', fc', rfl, h3, h4, h5⟩
  · exact ⟨none, none, 0, 0, ar0, 0, 1, rfl, by decide, by decide, ar0_I _ _ _ _ _, fun h => absurd h (by decide), fun _ => ⟨rfl, rfl, .inl ⟨h1, rfl⟩⟩⟩
  · exact ⟨none, none, 0, 0, ar0, 0, 2, rfl, by decide, by decide, ar0_I _ _ _ _ _, fun h => absurd h (by decide), fun _ => ⟨rfl, rfl, .inr ⟨h1, h2, rfl⟩⟩⟩
  · exact ⟨na', fa', nc', fc', _, _, 0, rfl, h3, h4, h5, fun _ => ⟨h1, h2, rfl, rfl⟩, fun h => absurd rfl h⟩
theorem drop_form {A : Ar} {l : List Int} {w w' : World} {na fa : Option Addr} {v : Value} (h : (¬ AOk A ∨ dropAll A l = none) ∧ v = .tuple #[arV0, .int .i64 1] ∨ AOk A ∧ ∃ A' av, dropAll A l = some A' ∧ v = .tuple #[av, .int .i64 0] ∧ ArO w w' na fa A av A') :
    ∃ na' fa' nc' fc' B e, v = .tuple #[arV na' fa' nc' fc' B, .int .i64 e] ∧ B.nodes.length ≤ nc' ∧ B.free.length ≤ fc' ∧ ArI w w' na fa A na' fa' B ∧
      (e = 0 → AOk A ∧ dropAll A l = some B) ∧ (¬ e = 0 → B = ar0 ∧ e = 1 ∧ (¬ AOk A ∨ dropAll A l = none)) := by
  rcases h with ⟨h1, rfl⟩ | ⟨h1, A', av, h2, rfl, na', fa', nc', fc', rfl, h3, h4, h5⟩
  · exact ⟨none, none, 0, 0, ar0, 1, rfl, by decide, by decide, ar0_I _ _ _ _ _, fun h => absurd h (by decide), fun _ => ⟨rfl, rfl, h1⟩⟩
  · exact ⟨na', fa', nc', fc', A', 0, rfl, h3, h4, h5, fun _ => ⟨h1, h2⟩, fun h => absurd rfl h⟩
/-- one place that is dropped -/
theorem drop_one {A B : Ar} {p : Int} (h : dropAll A [p] = some B) : dropStep A p = some B := by
  simp only [dropAll] at h
  cases h1 : dropStep A p with
  | none => rw [h1] at h; cases h
  | some B' => rw [h1] at h; simpa [dropAll] using h
theorem drop_one_no {A : Ar} {p : Int} (h : dropAll A [p] = none) : dropStep A p = none := by
  simp only [dropAll] at h
  cases h1 : dropStep A p with
  | none => rfl
  | some B' => rw [h1] at h; cases h
theorem dropStep_inv {A B : Ar} {p : Int} (h : dropStep A p = some B) : 0 ≤ p ∧ p < A.nodes.length ∧ ∃ y, A.nodes[p.toNat]? = some y ∧ ¬ y.kind = 0 ∧ B = ⟨A.nodes.set p.toNat (bareN ((y.gen + 1) % 1048577)), A.free ++ [p]⟩ := by
  unfold dropStep at h
  split at h
  · rename_i hp
    split at h
    · cases h
    · rename_i y hy
      split at h
      · cases h
      · rename_i hk
        cases h
        exact ⟨hp.1, hp.2, y, hy, hk, rfl⟩
  · cases h
theorem dropStep_none {A : Ar} {p : Int} (h : dropStep A p = none) : p < 0 ∨ A.nodes.length ≤ p ∨ ∃ y, A.nodes[p.toNat]? = some y ∧ y.kind = 0 := by
  by_cases hp : 0 ≤ p ∧ p < A.nodes.length
  · obtain ⟨y, hy⟩ := getSome (l := A.nodes) (i := p.toNat) (by omega)
    rw [dropStep_at hp hy] at h
    split at h
    · exact .inr (.inr ⟨y, hy, ‹_›⟩)
    · cases h
  · omega

end Go.Proofs.Ytjafbffehmombaa
