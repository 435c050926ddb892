/-
  A cursor's steps are all keys from one to another one.
-/
import Derived.Test.YtdmaogopibljoaaSpanStep
set_option linter.unusedVariables false
set_option linter.unusedSimpArgs false
namespace Go.Proofs.Ytdmaogopibljoaa
open Go Go.XL

theorem inR_both (low high : Int) (l : List It) : inR low high l = (l.filter fun x => decide (low ≤ x.k)).filter fun x => decide (x.k ≤ high) := by
  unfold inR
  rw [List.filter_filter]
  refine List.filter_congr fun y _ => ?_
  by_cases h1 : low ≤ y.k <;> by_cases h2 : y.k ≤ high <;> simp [h1, h2]
theorem step_next {R : List It} (hs : Srt R) (c : Cu) : (inR c.lo c.hi R = [] ∧ stepC R c = ({ c with fin := true }, it0)) ∨
    ∃ z zs, inR c.lo c.hi R = z :: zs ∧ (stepC R c).2 = z ∧ ((stepC R c).1 = { c with fin := true } ∧ zs = [] ∨ (stepC R c).1 = { c with lo := z.k + 1 } ∧ inR (z.k + 1) c.hi R = zs) := by
  have hF : Srt (R.filter fun x => decide (c.lo ≤ x.k)) := List.Pairwise.filter _ hs
  rw [inR_both]
  cases hr : R.filter (fun x => decide (c.lo ≤ x.k)) with
  | nil =>
    have hc : ceilL c.lo R (it0, false) = (it0, false) := by unfold ceilL; rw [hr]; rfl
    exact .inl ⟨rfl, by rw [stepC, hc, if_pos (.inl rfl)]⟩
  | cons z zs =>
    have hc : ceilL c.lo R (it0, false) = (z, true) := by unfold ceilL; rw [hr]; rfl
    rw [hr] at hF
    have h2 := List.pairwise_cons.1 hF
    rw [stepC, hc]
    by_cases q : z.k > c.hi
    · left
      refine ⟨?_, by rw [if_pos (.inr q)]⟩
      rw [List.filter_eq_nil_iff]
      intro y hy
      rcases List.mem_cons.1 hy with rfl | hy
      · simp; omega
      · have := h2.1 y hy; simp; omega
    · right
      rw [if_neg (fun h => h.elim (fun h => by cases h) q)]
      refine ⟨z, zs.filter fun x => decide (x.k ≤ c.hi), by rw [List.filter_cons, if_pos (by simp; omega)], ?_, ?_⟩
      · by_cases q3 : z.k = c.hi
        · rw [if_pos q3]
        · rw [if_neg q3]
      · by_cases q3 : z.k = c.hi
        · left
          rw [if_pos q3]
          refine ⟨rfl, ?_⟩
          rw [List.filter_eq_nil_iff]
          intro y hy
          have := h2.1 y hy; simp; omega
        · right
          rw [if_neg q3]
          refine ⟨rfl, ?_⟩
          rw [inR_both]
          congr 1
          have hz : c.lo ≤ z.k := by
            have : z ∈ R.filter fun x => decide (c.lo ≤ x.k) := by rw [hr]; exact List.mem_cons_self
            simpa using (List.mem_filter.1 this).2
          have e1 : R.filter (fun x => decide (z.k + 1 ≤ x.k)) = (R.filter fun x => decide (c.lo ≤ x.k)).filter fun x => decide (z.k + 1 ≤ x.k) := by
            rw [List.filter_filter]
            exact List.filter_congr fun y _ => by by_cases q4 : z.k + 1 ≤ y.k <;> simp [q4] <;> omega
          rw [e1, hr, List.filter_cons, if_neg (by simp; omega), List.filter_eq_self.2]
          intro y hy
          have := h2.1 y hy; simp; omega
theorem inR_mem {low high : Int} {R : List It} {z : It} (h : z ∈ inR low high R) : z ∈ R := (List.mem_filter.1 h).1
theorem inR_len (low high : Int) (R : List It) : (inR low high R).length ≤ R.length := List.length_filter_le _ _
end Go.Proofs.Ytdmaogopibljoaa
