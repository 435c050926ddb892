/-
  Arguments opened: what reads as data is rows of numbers in memory.
-/
import Derived.Test.YtjafbffehmombaaCore
import Derived.OpenShut
import Derived.ChangeArms
import Derived.Deep.Slices
set_option linter.unusedVariables false
set_option linter.unusedSimpArgs false
namespace Go.XL
open Go

def fitR : Option IntKind → Value → Prop
  | some k, .int k' a => k' = k ∧ (Lit.int k a).wf = true
  | none, .bool _ => True
  | _, _ => False
def fitsR : List (Option IntKind) → List Value → Prop
  | [], [] => True
  | k :: ks, v :: vs => fitR k v ∧ fitsR ks vs
  | _, _ => False
theorem fitsR_app : ∀ {ks ks' : List (Option IntKind)} {xs ys : List Value}, fitsR ks xs → fitsR ks' ys → fitsR (ks ++ ks') (xs ++ ys)
  | [], _, [], _, _, h => h
  | _ :: _, _, _ :: _, _, h, h' => ⟨h.1, fitsR_app h.2 h'⟩
  | [], _, _ :: _, _, h, _ => h.elim
  | _ :: _, _, [], _, h, _ => h.elim
theorem fitsR_len : ∀ {ks : List (Option IntKind)} {xs : List Value}, fitsR ks xs → ks.length = xs.length
  | [], [], _ => rfl
  | _ :: _, _ :: _, h => by simp [fitsR_len h.2]
  | [], _ :: _, h => h.elim
  | _ :: _, [], h => h.elim
theorem fitR_int {k : IntKind} {v : Value} (h : fitR (some k) v) : ∃ a, v = .int k a ∧ (Lit.int k a).wf = true := by
  cases v <;> simp [fitR] at h
  obtain ⟨rfl, h⟩ := h
  exact ⟨_, rfl, h⟩
theorem fitR_bool {v : Value} (h : fitR none v) : ∃ b, v = .bool b := by
  cases v <;> simp [fitR] at h
  exact ⟨_, rfl⟩
theorem fitsR_cons {k ks xs} (h : fitsR (k :: ks) xs) : ∃ v vs, xs = v :: vs ∧ fitR k v ∧ fitsR ks vs := by
  cases xs with
  | nil => exact h.elim
  | cons v vs => exact ⟨v, vs, rfl, h.1, h.2⟩
theorem fitsR_nil {xs} (h : fitsR [] xs) : xs = [] := by
  cases xs with
  | nil => rfl
  | cons v vs => exact h.elim

section
variable {H : Type} {enc : TypeId × Value → H} {P : Program} {w : World} {base : Nat} {spare : Nat → Bool} {held : Bool}

theorem cellsOf_shape {t b s} (h : shapeOf P t = some (b, s)) : P.cellsOf t = s := by
  obtain ⟨d, i, h1, h2, h3, h4⟩ := shapeOf_spec h
  simp [Program.cellsOf, h2, h4]

theorem fields_flat {k : Nat} (IH : ∀ {t ks n cs x}, flatK P k t = some ks → cs.length = ks.length → DataW.trod enc P w base spare held n t cs = some x → fitsR ks cs) :
    ∀ (fs : List Field) (o : Nat) (ks : List (Option IntKind)) (cs : List Value), fieldsK P (flatK P k) o fs = some ks → cs.length = o + ks.length →
      (∀ f ∈ fs, ∃ n x, DataW.trod enc P w base spare held n f.type ((cs.drop f.offset).take (P.cellsOf f.type)) = some x) → fitsR ks (cs.drop o)
  | [], o, ks, cs, h, hl, _ => by
    simp only [fieldsK, Option.some.injEq] at h
    subst h
    rw [List.drop_eq_nil_of_le (by simp at hl; omega)]
    trivial
  | f :: fs, o, ks, cs, h, hl, hf => by
    simp only [fieldsK] at h
    split at h
    · cases h
    rename_i hno
    split at h
    · cases h
    rename_i l hl1
    split at h
    · cases h
    rename_i b s hs
    split at h
    · cases h
    rename_i hsl
    have hsl' : s = l.length := Decidable.byContradiction hsl
    split at h
    · cases h
    rename_i r hr
    cases h
    have ho : f.offset = o := Decidable.byContradiction fun e => hno (.inr e)
    obtain ⟨n, x, hx⟩ := hf f (by simp)
    rw [ho, cellsOf_shape hs] at hx
    have h1 := IH hl1 (by rw [List.length_take, List.length_drop, hl, List.length_append]; omega) hx
    have h2 := fields_flat IH fs (o + s) r cs hr (by rw [hl, List.length_append]; omega) (fun g hg => hf g (by simp [hg]))
    have e : cs.drop o = (cs.drop o).take s ++ cs.drop (o + s) := by
      rw [← List.drop_drop, List.take_append_drop]
    rw [e]
    exact fitsR_app h1 h2

theorem elems_flat {l : List (Option IntKind)} {s : Nat} (hs : s = l.length) : ∀ (n : Nat) (cs : List Value), cs.length = n * s → (∀ i, i < n → fitsR l ((cs.drop (i * s)).take s)) → fitsR (List.replicate n l).flatten cs
  | 0, cs, hl, _ => by
    have : cs = [] := List.eq_nil_of_length_eq_zero (by simpa using hl)
    subst this
    trivial
  | n + 1, cs, hl, h => by
    rw [Nat.succ_mul] at hl
    rw [List.replicate_succ, List.flatten_cons, ← List.take_append_drop s cs]
    refine fitsR_app (by simpa using h 0 (by omega)) (elems_flat hs n (cs.drop s) (by rw [List.length_drop]; omega) fun i hi => ?_)
    have := h (i + 1) (by omega)
    rwa [Nat.succ_mul, Nat.add_comm, ← List.drop_drop] at this

theorem trod_flat : ∀ (k : Nat) {t ks n cs x}, flatK P k t = some ks → cs.length = ks.length → DataW.trod enc P w base spare held n t cs = some x → fitsR ks cs
  | 0, t, ks, n, cs, x, h, _, _ => by simp [flatK] at h
  | k + 1, t, ks, n, cs, x, h, hl, hx => by
    rw [flatK] at h
    split at h
    · rename_i kd hu
      cases h
      obtain ⟨a, rfl, _, hw⟩ := DataW.trod_int hu hx
      exact ⟨⟨rfl, hw⟩, trivial⟩
    · rename_i hu
      cases h
      obtain ⟨b, rfl, _⟩ := DataW.trod_bool hu hx
      exact ⟨trivial, trivial⟩
    · rename_i fs hu
      split at h
      · cases h
      obtain ⟨xs, m, rfl, rfl, hlen, hxl, hf⟩ := DataW.trod_struct hu hx
      have key : ∀ f ∈ fs.toList, ∃ n x, DataW.trod enc P w base spare held n f.type ((cs.drop f.offset).take (P.cellsOf f.type)) = some x := fun f hfm => by
        obtain ⟨i, hi, he⟩ := List.getElem_of_mem hfm
        have hi' : i < fs.size := by simpa using hi
        have := hf i f (by rw [Array.getElem?_eq_getElem hi']; simpa using he)
        rw [List.getElem?_eq_getElem (by omega)] at this
        exact ⟨m, _, this⟩
      have := fields_flat (fun h hl hx => trod_flat k h hl hx) fs.toList 0 ks cs h (by omega) key
      simpa using this
    · rename_i len e hu
      split at h
      · cases h
      rename_i l hl1
      split at h
      · cases h
      rename_i b s hs
      split at h
      · cases h
      rename_i hsl
      have hsl' : s = l.length := Decidable.byContradiction hsl
      cases h
      obtain ⟨xs, m, rfl, rfl, hlen, hxl, hf⟩ := DataW.trod_array hu hx
      rw [cellsOf_shape hs] at hf
      have hcl : cs.length = len * s := by rw [hl, List.length_flatten]; simp [hsl']
      refine elems_flat hsl' len cs hcl fun i hi => ?_
      have := hf i hi
      rw [List.getElem?_eq_getElem (by omega)] at this
      have hle : (i + 1) * s ≤ len * s := Nat.mul_le_mul_right _ hi
      rw [Nat.succ_mul] at hle
      exact trod_flat k hl1 (by rw [List.length_take, List.length_drop]; omega) this
    · cases h

/-- a slice of what is flat, opened -/
theorem trod_sl {t e s by_ ks n cs x} (ht : sliceOf P t = some (e, s, by_)) (hk : flatK P 6 e = some ks) (hs : s = ks.length) (h : DataW.trod enc P w base spare held n t cs = some x) :
    ∃ (a : Option Addr) (rows : List (List Value)) (c : Nat), cs = [.slice a rows.length c] ∧ rows.length ≤ c ∧ c ≤ maxLen ∧ Sl w a s rows ∧ ∀ r ∈ rows, fitsR ks r := by
  obtain ⟨h1, i, h2, h3, h4⟩ := sliceOf_spec ht
  have hc : P.cellsOf e = s := by simp [Program.cellsOf, h2, h3]
  rcases Go.Deep.open_slice h1 h with ⟨rfl, rfl⟩ | ⟨a, len, cap, m, n', D, Pl, rfl, hb, hlc, hcm, hm, rfl, hel⟩
  · exact ⟨none, [], 0, rfl, Nat.le_refl _, Nat.zero_le _, Sl.nil _ _ _, by simp⟩
  · rw [hc] at hel
    have hlm : len ≤ m := by rw [hm]; split <;> omega
    let f : Nat → List Value := fun i => (w.cells? base (a.add (i * s)) s).getD []
    have hf : ∀ i, i < len → w.cells? base (a.add (i * s)) s = some (f i) ∧ fitsR ks (f i) := fun i hi => by
      obtain ⟨cs', g1, g2⟩ := hel i (by omega)
      have hl := (World.cells?_some g1).2.1
      have e : f i = cs' := by simp only [f, g1, Option.getD_some]
      rw [e]
      exact ⟨g1, trod_flat 6 hk (by omega) g2⟩
    have hlen : ((List.range len).map f).length = len := by simp
    refine ⟨some a, (List.range len).map f, cap, by rw [hlen], by omega, hcm, ⟨fun _ => rfl, fun i r hr => ?_⟩, fun r hr => ?_⟩
    · rw [List.getElem?_map] at hr
      by_cases hi : i < len
      · rw [List.getElem?_range hi] at hr
        cases hr
        obtain ⟨_, g2, g3⟩ := World.cells?_some (hf i hi).1
        intro j v hj
        have hjl : j < s := by
          rw [← g2]
          rcases Nat.lt_or_ge j (f i).length with q | q
          · exact q
          · rw [List.getElem?_eq_none q] at hj; cases hj
        simp only [Option.getD_some]
        rw [g3 j hjl, hj]
      · rw [List.getElem?_eq_none (by simpa using hi)] at hr; cases hr
    · obtain ⟨i, hi, rfl⟩ := List.mem_map.1 hr
      exact (hf i (List.mem_range.1 hi)).2
theorem rows_of {α : Type} {enc : α → List Value} {ok : α → Prop} : ∀ (rows : List (List Value)), (∀ r ∈ rows, ∃ x, r = enc x ∧ ok x) → ∃ l : List α, rows = l.map enc ∧ ∀ x ∈ l, ok x
  | [], _ => ⟨[], rfl, by simp⟩
  | r :: rows, h => by
    obtain ⟨x, rfl, hx⟩ := h r (by simp)
    obtain ⟨l, rfl, hl⟩ := rows_of rows (fun r hr => h r (by simp [hr]))
    exact ⟨x :: l, rfl, by intro y hy; rcases List.mem_cons.1 hy with rfl | hy; exact hx; exact hl y hy⟩
/-- a value of a slice's type that reads -/
theorem open_sl {α : Type} (f : α → List Value) (ok : α → Prop) {t e s by_ ks v d ps r b} (ht : sliceOf P t = some (e, s, by_)) (hk : flatK P 6 e = some ks) (hs : s = ks.length) (hf : ∀ r, fitsR ks r → ∃ x, r = f x ∧ ok x) (hok : Value.okWide P w r b t v) (h : DataW.Trod enc P w base spare held t v d ps) :
    ∃ (a : Option Addr) (l : List α) (c : Nat), v = .slice a l.length c ∧ l.length ≤ c ∧ c ≤ maxLen ∧ Sl w a s (l.map f) ∧ ∀ x ∈ l, ok x := by
  obtain ⟨n, hn⟩ := h
  obtain ⟨a, rows, c, h1, h2, h3, h4, h5⟩ := trod_sl ht hk hs hn
  obtain ⟨l, rfl, hl⟩ := rows_of rows (fun r hr => hf r (h5 r hr))
  rw [List.length_map] at h1 h2
  have hv : v = .slice a l.length c := by
    have hu := (sliceOf_spec ht).1
    cases v with
    | agg cs => simp [Value.okWide, hu, Cell.okWide, Cell.ok] at hok
    | slice a' n' c' => simpa [Value.cells] using h1
    | _ => simp [Value.cells] at h1
  exact ⟨a, l, c, hv, h2, h3, h4, hl⟩
/-- a value of a flat struct's type that reads -/
theorem open_flat {t ks s v d ps r b} (hsh : shapeOf P t = some (true, s)) (hk : flatK P 6 t = some ks) (hs : s = ks.length) (hok : Value.okWide P w r b t v) (h : DataW.Trod enc P w base spare held t v d ps) :
    ∃ cs : List Value, v = .agg cs.toArray ∧ fitsR ks cs := by
  obtain ⟨n, hn⟩ := h
  obtain ⟨de, i, h1, h2, h3, h4⟩ := shapeOf_spec hsh
  have key : ∀ cs : Array Value, v = .agg cs → cs.size = P.cellsOf t → ∃ cs : List Value, v = .agg cs.toArray ∧ fitsR ks cs := fun cs e hc => by
    subst e
    refine ⟨cs.toList, by simp, trod_flat 6 hk ?_ hn⟩
    show cs.toList.length = _
    rw [Array.length_toList, hc, cellsOf_shape hsh, hs]
  cases de <;> simp [isAggD] at h3
  all_goals
    simp only [Value.okWide, h1] at hok
    obtain ⟨cs, e, hc, _⟩ := hok
    exact key cs e hc
end
end Go.XL
