/-
  What is read of a set of blocks: it holds as long as those are not turned.
-/
import Derived.Test.YtjafbffehmombaaFacts
set_option linter.unusedVariables false
set_option linter.unusedSimpArgs false
namespace Go.Proofs.Ytjafbffehmombaa
open Go Go.XL

structure Ft (M : Nat → Prop) (I : World → Prop) (w : World) : Prop where
  lt : ∀ k, M k → k < w.heap.size
  imm : ∀ w', Agr (fun k => ¬ M k) w w' → I w'
theorem Ft.now {M I w} (h : Ft M I w) : I w := h.imm w (Agr.refl _ _)
theorem Ft.step {M I w w'} {N : Nat → Prop} (h : Ft M I w) (a : Agr N w w') (hn : ∀ k, M k → ¬ N k) : Ft M I w' :=
  ⟨fun k hk => Nat.lt_of_lt_of_le (h.lt k hk) a.size, fun w'' a' => h.imm w'' ((a.mono fun k _ e hk => hn k hk e).trans a')⟩
theorem Ft.sub {M I w w'} (h : Ft M I w) (s : Sub w w') : Ft M I w' := h.step (N := fun _ => False) s.agr (fun _ _ e => e)
theorem Ft.updD {M I w w' b} (h : Ft M I w) (a : Agr (· = b) w w') (d : ∀ k, M k → k ≠ b) : Ft M I w' := h.step a d
theorem Ft.neNew {M I w b} (h : Ft M I w) (hb : b = w.heap.size) : ∀ k, M k → k ≠ b := fun k hk e => absurd (h.lt k hk) (by omega)
theorem Ft.ge {M I w} (h : Ft M I w) : ∀ k, M k → 0 ≤ k ∧ k < w.heap.size := fun k hk => ⟨Nat.zero_le _, h.lt k hk⟩
theorem Ft.imp {M} {I J : World → Prop} {w} (h : Ft M I w) (k : ∀ u, I u → J u) : Ft M J w := ⟨h.lt, fun w' a => k _ (h.imm w' a)⟩
theorem Ft.of_sub {I : World → Prop} {w} (h : ∀ u, Sub w u → I u) : Ft (· < w.heap.size) I w :=
  ⟨fun _ hk => hk, fun u a => h u ⟨a.os, a.tape, a.output, a.size, fun k hk => a.block k hk (fun hn => hn hk)⟩⟩
theorem obDF {w : World} {v v' : Value} {M : Nat → Prop} (h : ob v' = ob v ∨ ∃ c, ob v' = some c ∧ w.heap.size ≤ c) (d : ∀ k, ob v = some k → M k → False) (h2 : ∀ k, M k → k < w.heap.size) : ∀ k, ob v' = some k → M k → False := by
  intro k hk hk2
  rcases h with h | ⟨c, h1, h3⟩
  · exact d k (h ▸ hk) hk2
  · rw [h1] at hk; cases hk; have := h2 _ hk2; omega
/-- a call's answer: what was read, and new blocks -/
def Mnew (M : Nat → Prop) (w w' : World) : Nat → Prop := fun k => M k ∨ w.heap.size ≤ k ∧ k < w'.heap.size
theorem Ft.ans {M} {I J : World → Prop} {w w'} (h : Ft M I w) (k : ∀ N : Nat → Prop, (∀ k, N k → k < w.heap.size) → Imm N I w → Imm N J w') (s : Sub w w') : Ft (Mnew M w w') J w' := by
  refine ⟨fun k hk => hk.elim (fun h' => Nat.lt_of_lt_of_le (h.lt k h') s.size) (fun h' => h'.2), fun u a => ?_⟩
  refine k (fun k => k < w.heap.size ∧ ¬ M k) (fun k hk => hk.1) (fun u' a' => h.imm u' (a'.mono fun k _ e => e.2)) u (a.mono fun k hk e => ?_)
  refine ⟨Nat.lt_of_not_le fun h' => e (.inr ⟨h', hk⟩), fun h' => e (.inl h')⟩
theorem Ft.new {J : World → Prop} {w w'} (k : ∀ N : Nat → Prop, (∀ k, N k → k < w.heap.size) → Imm N J w') (s : Sub w w') : Ft (Mnew (fun _ => False) w w') J w' := by
  refine ⟨fun k hk => hk.elim False.elim (fun h' => h'.2), fun u a => ?_⟩
  refine k (fun k => k < w.heap.size) (fun k hk => hk) u (a.mono fun k hk e => ?_)
  exact Nat.lt_of_not_le fun h' => e (.inr ⟨h', hk⟩)
theorem neFt {M : Nat → Prop} {w w' : World} {b : Nat} (d : ∀ k, M k → k ≠ b) (hb : b < w.heap.size) : ∀ k, Mnew M w w' k → k ≠ b := fun k hk => hk.elim (d k) (fun h e => by omega)
theorem ddFt {M : Nat → Prop} {w w' : World} {v : Value} (d : ∀ k, ob v = some k → M k → False) (h : ∀ k, ob v = some k → k < w.heap.size) : ∀ k, ob v = some k → Mnew M w w' k → False := fun k hk hm => hm.elim (d k hk) (fun h' => by have := h k hk; omega)
theorem mmFt {M M2 : Nat → Prop} {w w' : World} (d : ∀ k, M2 k → M k → False) (h : ∀ k, M2 k → k < w.heap.size) : ∀ k, M2 k → Mnew M w w' k → False := fun k hk hm => hm.elim (d k hk) (fun h' => by have := h k hk; omega)
theorem agLe {N : Nat → Prop} {w0 w : World} {b : Nat} (h : Agr N w0 w) (e : b = w.heap.size) : w0.heap.size ≤ b := by rw [e]; exact h.size
theorem agNew {N : Nat → Prop} {w0 w w' : World} {b : Nat} (h : Agr N w0 w) (a : Agr (· = b) w w') (g : w0.heap.size ≤ b) : Agr N w0 w' :=
  ⟨a.os.trans h.os, a.tape.trans h.tape, a.output.trans h.output, Nat.le_trans h.size a.size, fun k hk hn => (a.block k (Nat.lt_of_lt_of_le hk h.size) (fun (e : k = b) => absurd hk (by omega))).trans (h.block k hk hn)⟩
theorem agNew2 {D : Nat → Prop} {b : Nat} {w w1 w2 : World} (G : Agr D w w1) (ag : Agr (fun k => k = b ∨ D k) w1 w2) (ge : w.heap.size ≤ b) : Agr D w w2 :=
  ⟨ag.os.trans G.os, ag.tape.trans G.tape, ag.output.trans G.output, Nat.le_trans G.size ag.size, fun i hi hn =>
    (ag.block i (Nat.lt_of_lt_of_le hi G.size) (fun e => e.elim (fun e => by omega) hn)).trans (G.block i hi hn)⟩
theorem Ft.and {M M' : Nat → Prop} {I J : World → Prop} {w : World} (h : Ft M I w) (k : Ft M' J w) : Ft (fun x => M x ∨ M' x) (fun u => I u ∧ J u) w :=
  ⟨fun x hx => hx.elim (h.lt x) (k.lt x), fun u a => ⟨h.imm u (a.mono fun x _ e hx => e (.inl hx)), k.imm u (a.mono fun x _ e hx => e (.inr hx))⟩⟩
theorem _root_.Go.XL.Ows.ft {base e sz v rows} {w : World} (h : Ows base w e sz v rows) : Ft (fun k => ob v = some k) (fun u => Ows base u e sz v rows) w :=
  ⟨fun k hk => (h.ge k hk).2, fun u a => h.step a (fun k hk hn => hn hk)⟩
theorem owNw {w : World} {e : TypeId} {sz b : Nat} {v : Value} {rows : List (List Value)} {w' : World} (h : Ows w.heap.size w' e sz v rows) (hb : b < w.heap.size) : ∀ k, ob v = some k → k ≠ b := fun k hk e => by have := (h.ge k hk).1; omega
theorem obNil {k : Nat} {p : Prop} (h : ob (.slice none 0 0) = some k) : p := by simp [ob, Value.ownBlock] at h
theorem bneIff {p q : Prop} [Decidable p] [Decidable q] (h : p ↔ q) : (!(decide p == decide q)) = false := by cases hp : decide p <;> cases hq : decide q <;> simp_all
theorem _root_.Go.XL.Ows.low {base base' : Nat} {w : World} {e : TypeId} {sz : Nat} {v : Value} {rows : List (List Value)} (h : Ows base w e sz v rows) (hb : base' ≤ base) : Ows base' w e sz v rows := by
  obtain ⟨⟨h1, h2⟩, h3⟩ := h
  refine ⟨⟨h1, h2.imp id ?_⟩, h3⟩
  rintro ⟨b, cap, ex, e, hb2, rest⟩
  exact ⟨b, cap, ex, e, Nat.le_trans hb hb2, rest⟩
end Go.Proofs.Ytjafbffehmombaa
