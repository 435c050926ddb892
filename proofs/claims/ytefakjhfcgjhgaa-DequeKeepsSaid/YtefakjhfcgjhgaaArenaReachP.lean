/-
  What is reached, in plain Lean.
-/
import Derived.Test.YtefakjhfcgjhgaaArenaFillP
import Derived.Test.YtefakjhfcgjhgaaArenaAt
set_option linter.unusedVariables false
set_option linter.unusedSimpArgs false
namespace Go.Proofs.Ytefakjhfcgjhgaa
open Go Go.XL

/-- the places that were met, and those from a reference on -/
def visitF (A : Ar) : Nat → List Int → Int → List Int
  | 0, out, _ => out
  | k + 1, out, r => match getA A r with
    | none => out
    | some x => if placeR r ∈ out then out else x.kids.foldl (visitF A k) (out ++ [placeR r])
theorem visitF_no {A : Ar} {k : Nat} {out : List Int} {r : Int} (h : getA A r = none) : visitF A (k + 1) out r = out := by rw [visitF, h]
theorem visitF_met {A : Ar} {k : Nat} {out : List Int} {r : Int} {x : Node} (h : getA A r = some x) (hm : placeR r ∈ out) : visitF A (k + 1) out r = out := by rw [visitF, h]; exact if_pos hm
theorem visitF_new {A : Ar} {k : Nat} {out : List Int} {r : Int} {x : Node} (h : getA A r = some x) (hm : placeR r ∉ out) : visitF A (k + 1) out r = x.kids.foldl (visitF A k) (out ++ [placeR r]) := by rw [visitF, h]; exact if_neg hm

/-- places, each once -/
structure Pl (A : Ar) (out : List Int) : Prop where
  nd : out.Nodup
  rng : ∀ p ∈ out, 0 ≤ p ∧ p < A.nodes.length
theorem Pl.nil (A : Ar) : Pl A [] := ⟨by simp, by simp⟩
theorem Pl.len {A : Ar} {out : List Int} (h : Pl A out) : out.length ≤ A.nodes.length := pigeon _ _ h.nd h.rng
theorem Pl.add {A : Ar} {out : List Int} {p : Int} (h : Pl A out) (hp : 0 ≤ p ∧ p < A.nodes.length) (hn : p ∉ out) : Pl A (out ++ [p]) :=
  ⟨by rw [List.nodup_append]; exact ⟨h.nd, by simp, fun a ha b hb e => by rw [List.mem_singleton] at hb; subst hb; subst e; exact hn ha⟩,
   fun q hq => (List.mem_append.1 hq).elim (h.rng q) (fun h => by rw [List.mem_singleton] at h; exact h ▸ hp)⟩
theorem visitF_pl (A : Ar) : ∀ (k : Nat) (out : List Int) (r : Int), Pl A out → Pl A (visitF A k out r) ∧ ∃ l, visitF A k out r = out ++ l
  | 0, out, r, h => ⟨h, [], by simp [visitF]⟩
  | k + 1, out, r, h => by
    cases hg : getA A r with
    | none => rw [visitF_no hg]; exact ⟨h, [], by simp⟩
    | some x =>
      by_cases hm : placeR r ∈ out
      · rw [visitF_met hg hm]; exact ⟨h, [], by simp⟩
      · rw [visitF_new hg hm]
        have key : ∀ (ks : List Int) (o : List Int), Pl A o → Pl A (ks.foldl (visitF A k) o) ∧ ∃ l, ks.foldl (visitF A k) o = o ++ l := by
          intro ks
          induction ks with
          | nil => intro o ho; exact ⟨ho, [], by simp⟩
          | cons q ks ih =>
            intro o ho
            obtain ⟨h1, l1, h2⟩ := visitF_pl A k o q ho
            obtain ⟨h3, l2, h4⟩ := ih _ h1
            exact ⟨h3, l1 ++ l2, by rw [List.foldl_cons, h4, h2, List.append_assoc]⟩
        obtain ⟨h1, l, h2⟩ := key x.kids _ (h.add (getA_rng hg) hm)
        exact ⟨h1, placeR r :: l, by rw [h2]; simp⟩
end Go.Proofs.Ytefakjhfcgjhgaa
