/-
  Arenas that go on, in plain Lean: nodes that are, stay.
-/
import Derived.Test.YtdmaogopibljoaaArenaAt
set_option linter.unusedVariables false
set_option linter.unusedSimpArgs false
namespace Go.Proofs.Ytdmaogopibljoaa
open Go Go.XL

/-- all nodes that were there are as they were -/
structure Ext (A A' : Ar) : Prop where
  len : A'.nodes.length = A.nodes.length
  keep : ∀ (i : Nat) x, A.nodes[i]? = some x → ¬ x.kind = 0 → A'.nodes[i]? = some x
theorem Ext.refl (A : Ar) : Ext A A := ⟨rfl, fun _ _ h _ => h⟩
theorem Ext.trans {A B C : Ar} (h : Ext A B) (k : Ext B C) : Ext A C := ⟨k.len.trans h.len, fun i x hx hk => k.keep i x (h.keep i x hx hk) hk⟩
theorem Ext.get {A A' : Ar} {r : Int} {x : Node} (h : Ext A A') (hg : getA A r = some x) : getA A' r = some x := by
  have h1 := getA_get hg
  rw [← getA_same (A := A) (B := A') (by rw [h1.1, h.keep _ _ h1.1 h1.2])]
  exact hg
theorem make_ext {A : Ar} {x : Node} (hA : AOk A) (h : 0 < A.free.length) : Ext A (makeA A x) := by
  refine ⟨by simp [makeA], fun i y hy hk => ?_⟩
  have hin := lastAt_in hA h
  simp only [makeA]
  rw [List.getElem?_set_ne, hy]
  intro e
  have := (hA.kind i y hy).2 (by
    have h2 := List.mem_of_getElem? (lastAt_get h)
    rwa [show lastAt A = (i : Int) by omega] at h2)
  exact hk this

/-- an arena, and what is wrong -/
abbrev St := Ar × Int
/-- s' comes from s; at most n nodes were made -/
structure Gs (n : Nat) (s s' : St) : Prop where
  ext : Ext s.1 s'.1
  ok : AOk s'.1
  free : s.1.free.length ≤ s'.1.free.length + n
  stay : ¬ s.2 = 0 → s'.2 = s.2
  full : s.2 = 0 → ¬ s'.2 = 0 → s'.2 = 2 ∧ s.1.free.length < n
theorem Gs.back {n : Nat} {s s' : St} (h : Gs n s s') (h0 : s'.2 = 0) : s.2 = 0 := Classical.byContradiction fun e => e (by rw [← h.stay e]; exact h0)
theorem Gs.refl {s : St} (h : AOk s.1) : Gs 0 s s := ⟨Ext.refl _, h, Nat.le_refl _, fun _ => rfl, fun h k => absurd h k⟩
theorem Gs.mono {n m : Nat} {s s' : St} (h : Gs n s s') (hn : n ≤ m) : Gs m s s' := ⟨h.ext, h.ok, by have := h.free; omega, h.stay, fun a b => ⟨(h.full a b).1, by have := (h.full a b).2; omega⟩⟩
theorem Gs.trans {n m : Nat} {a b c : St} (h : Gs n a b) (k : Gs m b c) : Gs (n + m) a c := by
  refine ⟨h.ext.trans k.ext, k.ok, by have := h.free; have := k.free; omega, fun e => ?_, fun e e2 => ?_⟩
  · have h1 := h.stay e
    rw [k.stay (by rw [h1]; exact e), h1]
  · by_cases q : b.2 = 0
    · have h1 := k.full q e2; have h2 := h.free; exact ⟨h1.1, by omega⟩
    · have h1 := h.full e q
      exact ⟨by rw [k.stay q, h1.1], by omega⟩
/-- the size that a node tells -/
def sizeA (A : Ar) (r : Int) : Int := match getA A r with
  | none => 0
  | some y => y.s
/-- one node is made -/
def MkX (s : St) (x : Node) (s' : St) (r : Int) : Prop :=
  (¬ s.2 = 0 ∧ s' = s ∧ r = 0) ∨ (s.2 = 0 ∧ mayMake s.1 x ∧ 0 < s.1.free.length ∧ s' = (makeA s.1 x, 0) ∧ r = makeR s.1) ∨
  (s.2 = 0 ∧ mayMake s.1 x ∧ s.1.free.length = 0 ∧ s' = (s.1, 2) ∧ r = 0) ∨ (s.2 = 0 ∧ ¬ mayMake s.1 x ∧ s' = (s.1, 1) ∧ r = 0)
theorem MkX.gs {s s' : St} {x : Node} {r : Int} (h : MkX s x s' r) (hA : AOk s.1) (hm : s.2 = 0 → mayMake s.1 x) : Gs 1 s s' := by
  rcases h with ⟨h0, rfl, rfl⟩ | ⟨h0, hm, hf, rfl, rfl⟩ | ⟨h0, hm, hf, rfl, rfl⟩ | ⟨h0, hn, rfl, rfl⟩
  · exact (Gs.refl hA).mono (by omega)
  · refine ⟨make_ext hA hf, make_ok hm hf, ?_, fun e => absurd h0 e, fun _ e => absurd rfl e⟩
    simp only [makeA, List.length_take]; omega
  · exact ⟨Ext.refl _, hA, by omega, fun e => absurd h0 e, fun _ _ => ⟨rfl, by omega⟩⟩
  · exact absurd (hm h0) hn
theorem MkX.u64 {s s' : St} {x : Node} {r : Int} (h : MkX s x s' r) : U64 r := by
  rcases h with ⟨_, _, rfl⟩ | ⟨_, hm, hf, _, rfl⟩ | ⟨_, _, _, _, rfl⟩ | ⟨_, _, _, rfl⟩
  · unfold U64; decide
  · exact ofR_U64 (make_isR hm.1 hf)
  · unfold U64; decide
  · unfold U64; decide
theorem MkX.get {s s' : St} {x : Node} {r : Int} (h : MkX s x s' r) (h0 : s'.2 = 0) : s.2 = 0 ∧ mayMake s.1 x ∧ 0 < s.1.free.length ∧ getA s'.1 r = some { x with gen := genAt s.1 (lastAt s.1) } ∧ Ext s.1 s'.1 := by
  rcases h with ⟨h1, rfl, rfl⟩ | ⟨h1, hm, hf, rfl, rfl⟩ | ⟨_, _, _, rfl, _⟩ | ⟨_, _, rfl, _⟩
  · exact absurd h0 h1
  · exact ⟨h1, hm, hf, get_made hm hf, make_ext hm.1 hf⟩
  · exact absurd h0 (show ¬ (2 : Int) = 0 by decide)
  · exact absurd h0 (show ¬ (1 : Int) = 0 by decide)
/-- the place of a node that is made was free -/
theorem MkX.place {s s' : St} {x : Node} {r : Int} (h : MkX s x s' r) (h0 : s'.2 = 0) : placeR r ∈ s.1.free ∧ ¬ placeR r ∈ s'.1.free := by
  rcases h with ⟨h1, rfl, rfl⟩ | ⟨h1, hm, hf, rfl, rfl⟩ | ⟨_, _, _, rfl, _⟩ | ⟨_, _, rfl, _⟩
  · exact absurd h0 h1
  · have hp : placeR (makeR s.1) = lastAt s.1 := placeR_of (make_isR hm.1 hf)
    refine ⟨by rw [hp]; exact List.mem_of_getElem? (lastAt_get hf), ?_⟩
    rw [hp]
    have hok := (make_ok hm hf)
    have hg := get_made (x := x) hm hf
    intro hin
    have h1 := getA_get hg
    rw [hp] at h1
    have := (hok.kind _ _ h1.1).2 (by rw [show (((lastAt s.1).toNat : Nat) : Int) = lastAt s.1 from Int.toNat_of_nonneg (lastAt_in hm.1 hf).1]; exact hin)
    exact h1.2 this
  · exact absurd h0 (show ¬ (2 : Int) = 0 by decide)
  · exact absurd h0 (show ¬ (1 : Int) = 0 by decide)
/-- what is free later was free before -/
def Fr (A B : Ar) : Prop := ∀ p ∈ B.free, p ∈ A.free
theorem MkX.fr {s s' : St} {x : Node} {r : Int} (h : MkX s x s' r) : Fr s.1 s'.1 := by
  rcases h with ⟨h1, rfl, rfl⟩ | ⟨h1, hm, hf, rfl, rfl⟩ | ⟨_, _, _, rfl, _⟩ | ⟨_, _, rfl, _⟩
  · exact fun p hp => hp
  · exact fun p hp => List.mem_of_mem_take hp
  · exact fun p hp => hp
  · exact fun p hp => hp
theorem getA_used {A : Ar} {r : Int} {x : Node} (hA : AOk A) (h : getA A r = some x) : ¬ placeR r ∈ A.free := by
  intro hin
  have h1 := getA_get h
  have h2 := (getA_rng h).1
  exact h1.2 ((hA.kind _ _ h1.1).2 (by rw [Int.toNat_of_nonneg h2]; exact hin))
end Go.Proofs.Ytdmaogopibljoaa
