/-
  The reference reads rows, in plain Lean.
-/
import Derived.Test.YtefakjhfcgjhgaaDequeP
set_option linter.unusedVariables false
set_option linter.unusedSimpArgs false
namespace Go.Proofs.Ytefakjhfcgjhgaa
open Go Go.XL

/-- what the reference is at: places that were met, values, whether all was right -/
abbrev Rd := List Int × List Int × Bool
def readF (A : Ar) : Nat → Rd → Int → Rd
  | 0, t, r => if r = 0 ∨ t.2.2 = false then t else (t.1, t.2.1, false)
  | k + 1, t, r =>
    if r = 0 ∨ t.2.2 = false then t else match getA A r with
    | none => (t.1, t.2.1, false)
    | some y =>
      if placeR r ∈ t.1 ∨ 200 < t.1.length then (t.1, t.2.1, false) else
      if ¬ y = rNode y.gen y.v y.s y.k0 y.k1 then (t.1, t.2.1, false) else
      let t1 := readF A k (t.1 ++ [placeR r], t.2.1, true) y.k0
      let t3 := readF A k (t1.1, t1.2.1 ++ [y.v], t1.2.2) y.k1
      if ¬ (t3.1.length : Int) - t.1.length = y.s then (t3.1, t3.2.1, false) else t3
section
variable {A : Ar} {k : Nat} {r : Int} {t t1 t3 : Rd} {y : Node}
theorem readF_stop (h : r = 0 ∨ t.2.2 = false) : readF A k t r = t := by cases k <;> (rw [readF]; exact if_pos h)
theorem readF_none (h0 : ¬ (r = 0 ∨ t.2.2 = false)) (h : getA A r = none) : readF A (k + 1) t r = (t.1, t.2.1, false) := by rw [readF, if_neg h0, h]
theorem readF_met (h0 : ¬ (r = 0 ∨ t.2.2 = false)) (h : getA A r = some y) (hc : placeR r ∈ t.1 ∨ 200 < t.1.length) : readF A (k + 1) t r = (t.1, t.2.1, false) := by rw [readF, if_neg h0, h]; exact if_pos hc
theorem readF_odd (h0 : ¬ (r = 0 ∨ t.2.2 = false)) (h : getA A r = some y) (hc : ¬ (placeR r ∈ t.1 ∨ 200 < t.1.length)) (hb : ¬ y = rNode y.gen y.v y.s y.k0 y.k1) : readF A (k + 1) t r = (t.1, t.2.1, false) := by
  rw [readF, if_neg h0, h]; simp only []; rw [if_neg hc, if_pos hb]
theorem readF_go (h0 : ¬ (r = 0 ∨ t.2.2 = false)) (h : getA A r = some y) (hc : ¬ (placeR r ∈ t.1 ∨ 200 < t.1.length)) (hb : y = rNode y.gen y.v y.s y.k0 y.k1)
    (h1 : readF A k (t.1 ++ [placeR r], t.2.1, true) y.k0 = t1) (h3 : readF A k (t1.1, t1.2.1 ++ [y.v], t1.2.2) y.k1 = t3) : readF A (k + 1) t r = if ¬ (t3.1.length : Int) - t.1.length = y.s then (t3.1, t3.2.1, false) else t3 := by
  rw [readF, if_neg h0, h]; simp only []; rw [if_neg hc, if_neg (fun e => e hb), h1, h3]
end
theorem readF_len (A : Ar) : ∀ (k : Nat) (t : Rd) (r : Int), t.1.length ≤ (readF A k t r).1.length ∧ ((readF A k t r).1.length ≤ 201 ∨ (readF A k t r).1.length = t.1.length) ∧ (readF A k t r).2.1.length + t.1.length = t.2.1.length + (readF A k t r).1.length
  | 0, t, r => by rw [readF]; split <;> exact ⟨Nat.le_refl _, .inr rfl, rfl⟩
  | k + 1, t, r => by
    by_cases h0 : r = 0 ∨ t.2.2 = false
    · rw [readF_stop h0]; exact ⟨Nat.le_refl _, .inr rfl, rfl⟩
    · cases hg : getA A r with
      | none => rw [readF_none h0 hg]; exact ⟨Nat.le_refl _, .inr rfl, rfl⟩
      | some y =>
        by_cases hc : placeR r ∈ t.1 ∨ 200 < t.1.length
        · rw [readF_met h0 hg hc]; exact ⟨Nat.le_refl _, .inr rfl, rfl⟩
        · by_cases hb : y = rNode y.gen y.v y.s y.k0 y.k1
          · obtain ⟨t1, h1⟩ : ∃ t1, readF A k (t.1 ++ [placeR r], t.2.1, true) y.k0 = t1 := ⟨_, rfl⟩
            obtain ⟨t3, h3⟩ : ∃ t3, readF A k (t1.1, t1.2.1 ++ [y.v], t1.2.2) y.k1 = t3 := ⟨_, rfl⟩
            have l1 := readF_len A k (t.1 ++ [placeR r], t.2.1, true) y.k0
            have l3 := readF_len A k (t1.1, t1.2.1 ++ [y.v], t1.2.2) y.k1
            rw [h1] at l1
            rw [h3] at l3
            simp only [List.length_append, List.length_singleton] at l1 l3
            have hlt : ¬ 200 < t.1.length := fun e => hc (.inr e)
            have key : t.1.length ≤ t3.1.length ∧ (t3.1.length ≤ 201 ∨ t3.1.length = t.1.length) ∧ t3.2.1.length + t.1.length = t.2.1.length + t3.1.length := by
              obtain ⟨a1, a2, a3⟩ := l1
              obtain ⟨b1, b2, b3⟩ := l3
              refine ⟨by omega, .inl (by omega), by omega⟩
            rw [readF_go h0 hg hc hb h1 h3]
            split <;> exact key
          · rw [readF_odd h0 hg hc hb]; exact ⟨Nat.le_refl _, .inr rfl, rfl⟩
theorem readF_yes {A : Ar} {r : Int} {V P : List Int} (h : IsR A r V P) : ∀ (k : Nat) (met v : List Int), (∀ p ∈ P, ¬ p ∈ met) → met.length + P.length ≤ 201 → 202 ≤ met.length + k → readF A k (met, v, true) r = (met ++ P, v ++ V, true) := by
  induction h with
  | nil => intro k met v _ _ _; rw [readF_stop (.inl rfl), List.append_nil, List.append_nil]
  | @node r g v0 a b L R P Q h1 h2 h3 h4 ih1 ih2 =>
    intro k met v hd hl hk
    simp only [List.length_cons, List.length_append] at hl
    obtain ⟨k, rfl⟩ : ∃ k', k = k' + 1 := ⟨k - 1, by omega⟩
    have h0 : ¬ r = 0 := fun e => by rw [e, getA_00] at h1; cases h1
    obtain ⟨hn1, hn2⟩ := List.nodup_cons.1 h4
    obtain ⟨hnP, hnQ, hPQ⟩ := List.nodup_append.1 hn2
    have e1 := ih1 k (met ++ [placeR r]) v (fun p hp hin => (List.mem_append.1 hin).elim (hd p (List.mem_cons_of_mem _ (List.mem_append_left _ hp))) (fun e => hn1 (by rw [← List.mem_singleton.1 e]; exact List.mem_append_left _ hp)))
      (by simp only [List.length_append, List.length_singleton]; omega) (by simp only [List.length_append, List.length_singleton]; omega)
    have e2 := ih2 k ((met ++ [placeR r]) ++ P) (v ++ L ++ [v0]) (fun q hq hin => by
        rcases List.mem_append.1 hin with hin | hin
        · rcases List.mem_append.1 hin with hin | hin
          · exact hd q (List.mem_cons_of_mem _ (List.mem_append_right _ hq)) hin
          · exact hn1 (by rw [← List.mem_singleton.1 hin]; exact List.mem_append_right _ hq)
        · exact hPQ q hin q hq rfl)
      (by simp only [List.length_append, List.length_singleton]; omega) (by simp only [List.length_append, List.length_singleton]; omega)
    have hl1 := h2.len
    have hl2 := h3.len
    rw [readF_go (y := rNode g v0 ((L.length : Int) + R.length + 1) a b) (fun h => h.elim h0 (fun e => by cases e)) h1 (fun h => h.elim (hd _ List.mem_cons_self) (fun e => by simp only [] at e; omega)) rfl e1 e2]
    rw [if_neg (fun hne => hne (by simp only [rNode, List.length_append, List.length_singleton]; omega))]
    simp
theorem readF_is {A : Ar} : ∀ (k : Nat) (met v : List Int) (r : Int), 202 ≤ met.length + k → (readF A k (met, v, true) r).2.2 = true → ∃ V P, IsR A r V P ∧ (∀ p ∈ P, ¬ p ∈ met) ∧ (P = [] ∨ met.length + P.length ≤ 201)
  | 0, met, v, r, _, h => by
    rw [readF] at h
    split at h
    · rename_i h0
      obtain rfl := h0.resolve_right (by simp)
      exact ⟨[], [], .nil, by simp, .inl rfl⟩
    · cases h
  | k + 1, met, v, r, hk, h => by
    by_cases h0 : r = 0
    · subst h0; exact ⟨[], [], .nil, by simp, .inl rfl⟩
    · have h0' : ¬ (r = 0 ∨ ((met, v, true) : Rd).2.2 = false) := fun e => e.elim h0 (fun e => by cases e)
      cases hg : getA A r with
      | none => rw [readF_none h0' hg] at h; cases h
      | some y =>
        by_cases hc : placeR r ∈ met ∨ 200 < met.length
        · rw [readF_met h0' hg hc] at h; cases h
        · by_cases hb : y = rNode y.gen y.v y.s y.k0 y.k1
          · obtain ⟨t1, h1⟩ : ∃ t1, readF A k (met ++ [placeR r], v, true) y.k0 = t1 := ⟨_, rfl⟩
            obtain ⟨t3, h3⟩ : ∃ t3, readF A k (t1.1, t1.2.1 ++ [y.v], t1.2.2) y.k1 = t3 := ⟨_, rfl⟩
            rw [readF_go h0' hg hc hb h1 h3] at h
            split at h
            · cases h
            · rename_i hsum
              have hsum : (t3.1.length : Int) - met.length = y.s := Classical.not_not.1 hsum
              have hm200 : ¬ 200 < met.length := fun e => hc (.inr e)
              have hmet : ¬ placeR r ∈ met := fun e => hc (.inl e)
              cases ho : t1.2.2 with
              | false =>
                rw [readF_stop (t := (t1.1, t1.2.1 ++ [y.v], t1.2.2)) (.inr ho)] at h3
                rw [← h3] at h
                simp only [] at h
                rw [ho] at h; cases h
              | true =>
                obtain ⟨L, P, hL, hPd, hPl⟩ := readF_is k (met ++ [placeR r]) v y.k0 (by simp only [List.length_append, List.length_singleton]; omega) (by rw [h1]; exact ho)
                have e1 := readF_yes hL k (met ++ [placeR r]) v hPd (by
                  simp only [List.length_append, List.length_singleton]
                  rcases hPl with rfl | hPl
                  · simp; omega
                  · simp only [List.length_append, List.length_singleton] at hPl; omega) (by simp only [List.length_append, List.length_singleton]; omega)
                rw [h1] at e1
                subst e1
                simp only [] at h3
                obtain ⟨R, Q, hR, hQd, hQl⟩ := readF_is k (met ++ [placeR r] ++ P) (v ++ L ++ [y.v]) y.k1 (by simp only [List.length_append, List.length_singleton]; omega) (by rw [h3]; exact h)
                have hmP : met.length + 1 + P.length ≤ 201 := by
                  rcases hPl with rfl | hPl
                  · simp; omega
                  · simpa only [List.length_append, List.length_singleton] using hPl
                have hmQ : met.length + 1 + P.length + Q.length ≤ 201 := by
                  rcases hQl with rfl | hQl
                  · simpa using hmP
                  · simpa only [List.length_append, List.length_singleton] using hQl
                have e3 := readF_yes hR k (met ++ [placeR r] ++ P) (v ++ L ++ [y.v]) hQd (by simp only [List.length_append, List.length_singleton]; omega) (by simp only [List.length_append, List.length_singleton]; omega)
                rw [h3] at e3
                subst e3
                simp only [List.length_append, List.length_singleton] at hsum
                have hl1 := hL.len
                have hl2 := hR.len
                refine ⟨_, _, .node (g := y.gen) (v := y.v) (a := y.k0) (b := y.k1) (by rw [hg, hb]; simp only [rNode]; congr 2; omega) hL hR ?_, ?_, .inr (by simp only [List.length_cons, List.length_append]; omega)⟩
                · refine List.nodup_cons.2 ⟨fun hin => (List.mem_append.1 hin).elim (fun hin => hPd _ hin (by simp)) (fun hin => hQd _ hin (by simp)), List.nodup_append.2 ⟨hL.nodup, hR.nodup, fun p hp q hq e => hQd q hq (by rw [← e]; simp [hp])⟩⟩
                · intro p hp
                  rcases List.mem_cons.1 hp with rfl | hp
                  · exact hmet
                  · rcases List.mem_append.1 hp with hp | hp
                    · exact fun hin => hPd p hp (by simp [hin])
                    · exact fun hin => hQd p hp (by simp [hin])
          · rw [readF_odd h0' hg hc hb] at h; cases h
/-- the values that the reference tells, and whether it is a row's -/
def rowR (A : Ar) (r : Int) : Rd := readF A 202 ([], [], true) r
theorem rowR_yes {A : Ar} {r : Int} {V P : List Int} (h : IsR A r V P) (hl : V.length ≤ 200) : rowR A r = (P, V, true) := by
  have := h.len
  unfold rowR
  rw [readF_yes h 202 [] [] (by simp) (by simp; omega) (by simp)]; simp
theorem rowR_iff {A : Ar} {r : Int} (hA : AOk A) : (rowR A r).2.2 = true ∧ (rowR A r).2.1.length ≤ 200 ↔ isRow A r := by
  constructor
  · rintro ⟨h1, h2⟩
    obtain ⟨V, P, h3, h4, h5⟩ := readF_is 202 [] [] r (by simp) h1
    have hl : P.length ≤ 201 := by rcases h5 with rfl | h5; simp; simpa using h5
    have e : rowR A r = (P, V, true) := by unfold rowR; rw [readF_yes h3 202 [] [] (by simp) (by simpa using hl) (by simp)]; simp
    rw [e] at h2
    exact ⟨hA, V, P, h3, h2⟩
  · rintro ⟨_, V, P, h1, h2⟩
    rw [rowR_yes h1 h2]; exact ⟨rfl, h2⟩
theorem isRow_get {A : Ar} {r : Int} (h : isRow A r) : ∃ P, IsR A r (rowR A r).2.1 P ∧ (rowR A r).2.1.length ≤ 200 ∧ (rowR A r).2.2 = true := by
  obtain ⟨_, V, P, h1, h2⟩ := h
  rw [rowR_yes h1 h2]
  exact ⟨P, h1, h2, rfl⟩
end Go.Proofs.Ytefakjhfcgjhgaa
