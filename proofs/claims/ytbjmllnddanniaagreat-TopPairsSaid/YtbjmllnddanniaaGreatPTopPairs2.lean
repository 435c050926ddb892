/-
  What the law TopPairs leans on, part 2.
-/
import Derived.Test.YtbjmllnddanniaaGreatPTopPairs1
set_option linter.unusedVariables false
set_option linter.unusedSimpArgs false
namespace Go.XL
open Go
def fitR : Option IntKind → Value → Prop
  | some k, .int k' a => k' = k ∧ (Lit.int k a).wf = true
  | none, .bool _ => True
  | _, _ => False
def fitsR : List (Option IntKind) → List Value → Prop
  | [], [] => True
  | k :: ks, v :: vs => fitR k v ∧ fitsR ks vs
  | _, _ => False
theorem fitsR_app : ∀ {ks ks' : List (Option IntKind)} {xs ys : List Value}, fitsR ks xs → fitsR ks' ys → fitsR (ks ++ ks') (xs ++ ys)
  | [], _, [], _, _, h => h
  | _ :: _, _, _ :: _, _, h, h' => ⟨h.1, fitsR_app h.2 h'⟩
  | [], _, _ :: _, _, h, _ => h.elim
  | _ :: _, _, [], _, h, _ => h.elim
theorem fitR_int {k : IntKind} {v : Value} (h : fitR (some k) v) : ∃ a, v = .int k a ∧ (Lit.int k a).wf = true := by
  cases v <;> simp [fitR] at h
  obtain ⟨rfl, h⟩ := h
  exact ⟨_, rfl, h⟩
theorem fitsR_cons {k ks xs} (h : fitsR (k :: ks) xs) : ∃ v vs, xs = v :: vs ∧ fitR k v ∧ fitsR ks vs := by
  cases xs with
  | nil => exact h.elim
  | cons v vs => exact ⟨v, vs, rfl, h.1, h.2⟩
theorem fitsR_nil {xs} (h : fitsR [] xs) : xs = [] := by
  cases xs with
  | nil => rfl
  | cons v vs => exact h.elim

section
variable {H : Type} {enc : TypeId × Value → H} {P : Program} {w : World} {base : Nat} {spare : Nat → Bool} {held : Bool}
theorem cellsOf_shape {t b s} (h : shapeOf P t = some (b, s)) : P.cellsOf t = s := by
  obtain ⟨d, i, h1, h2, h3, h4⟩ := shapeOf_spec h
  simp [Program.cellsOf, h2, h4]

theorem fields_flat {k : Nat} (IH : ∀ {t ks n cs x}, flatK P k t = some ks → cs.length = ks.length → DataW.trod enc P w base spare held n t cs = some x → fitsR ks cs) :
    ∀ (fs : List Field) (o : Nat) (ks : List (Option IntKind)) (cs : List Value), fieldsK P (flatK P k) o fs = some ks → cs.length = o + ks.length →
      (∀ f ∈ fs, ∃ n x, DataW.trod enc P w base spare held n f.type ((cs.drop f.offset).take (P.cellsOf f.type)) = some x) → fitsR ks (cs.drop o)
  | [], o, ks, cs, h, hl, _ => by
    simp only [fieldsK, Option.some.injEq] at h
    subst h
    rw [List.drop_eq_nil_of_le (by simp at hl; omega)]
    trivial
  | f :: fs, o, ks, cs, h, hl, hf => by
    simp only [fieldsK] at h
    split at h
    · cases h
    rename_i hno
    split at h
    · cases h
    rename_i l hl1
    split at h
    · cases h
    rename_i b s hs
    split at h
    · cases h
    rename_i hsl
    have hsl' : s = l.length := Decidable.byContradiction hsl
    split at h
    · cases h
    rename_i r hr
    cases h
    have ho : f.offset = o := Decidable.byContradiction fun e => hno (.inr e)
    obtain ⟨n, x, hx⟩ := hf f (by simp)
    rw [ho, cellsOf_shape hs] at hx
    have h1 := IH hl1 (by rw [List.length_take, List.length_drop, hl, List.length_append]; omega) hx
    have h2 := fields_flat IH fs (o + s) r cs hr (by rw [hl, List.length_append]; omega) (fun g hg => hf g (by simp [hg]))
    have e : cs.drop o = (cs.drop o).take s ++ cs.drop (o + s) := by
      rw [← List.drop_drop, List.take_append_drop]
    rw [e]
    exact fitsR_app h1 h2

theorem elems_flat {l : List (Option IntKind)} {s : Nat} (hs : s = l.length) : ∀ (n : Nat) (cs : List Value), cs.length = n * s → (∀ i, i < n → fitsR l ((cs.drop (i * s)).take s)) → fitsR (List.replicate n l).flatten cs
  | 0, cs, hl, _ => by
    have : cs = [] := List.eq_nil_of_length_eq_zero (by simpa using hl)
    subst this
    trivial
  | n + 1, cs, hl, h => by
    rw [Nat.succ_mul] at hl
    rw [List.replicate_succ, List.flatten_cons, ← List.take_append_drop s cs]
    refine fitsR_app (by simpa using h 0 (by omega)) (elems_flat hs n (cs.drop s) (by rw [List.length_drop]; omega) fun i hi => ?_)
    have := h (i + 1) (by omega)
    rwa [Nat.succ_mul, Nat.add_comm, ← List.drop_drop] at this

theorem trod_flat : ∀ (k : Nat) {t ks n cs x}, flatK P k t = some ks → cs.length = ks.length → DataW.trod enc P w base spare held n t cs = some x → fitsR ks cs
  | 0, t, ks, n, cs, x, h, _, _ => by simp [flatK] at h
  | k + 1, t, ks, n, cs, x, h, hl, hx => by
    rw [flatK] at h
    split at h
    · rename_i kd hu
      cases h
      obtain ⟨a, rfl, _, hw⟩ := DataW.trod_int hu hx
      exact ⟨⟨rfl, hw⟩, trivial⟩
    · rename_i hu
      cases h
      obtain ⟨b, rfl, _⟩ := DataW.trod_bool hu hx
      exact ⟨trivial, trivial⟩
    · rename_i fs hu
      split at h
      · cases h
      obtain ⟨xs, m, rfl, rfl, hlen, hxl, hf⟩ := DataW.trod_struct hu hx
      have key : ∀ f ∈ fs.toList, ∃ n x, DataW.trod enc P w base spare held n f.type ((cs.drop f.offset).take (P.cellsOf f.type)) = some x := fun f hfm => by
        obtain ⟨i, hi, he⟩ := List.getElem_of_mem hfm
        have hi' : i < fs.size := by simpa using hi
        have := hf i f (by rw [Array.getElem?_eq_getElem hi']; simpa using he)
        rw [List.getElem?_eq_getElem (by omega)] at this
        exact ⟨m, _, this⟩
      have := fields_flat (fun h hl hx => trod_flat k h hl hx) fs.toList 0 ks cs h (by omega) key
      simpa using this
    · rename_i len e hu
      split at h
      · cases h
      rename_i l hl1
      split at h
      · cases h
      rename_i b s hs
      split at h
      · cases h
      rename_i hsl
      have hsl' : s = l.length := Decidable.byContradiction hsl
      cases h
      obtain ⟨xs, m, rfl, rfl, hlen, hxl, hf⟩ := DataW.trod_array hu hx
      rw [cellsOf_shape hs] at hf
      have hcl : cs.length = len * s := by rw [hl, List.length_flatten]; simp [hsl']
      refine elems_flat hsl' len cs hcl fun i hi => ?_
      have := hf i hi
      rw [List.getElem?_eq_getElem (by omega)] at this
      have hle : (i + 1) * s ≤ len * s := Nat.mul_le_mul_right _ hi
      rw [Nat.succ_mul] at hle
      exact trod_flat k hl1 (by rw [List.length_take, List.length_drop]; omega) this
    · cases h

theorem trod_sl {t e s by_ ks n cs x} (ht : sliceOf P t = some (e, s, by_)) (hk : flatK P 6 e = some ks) (hs : s = ks.length) (h : DataW.trod enc P w base spare held n t cs = some x) :
    ∃ (a : Option Addr) (rows : List (List Value)) (c : Nat), cs = [.slice a rows.length c] ∧ rows.length ≤ c ∧ c ≤ maxLen ∧ Sl w a s rows ∧ ∀ r ∈ rows, fitsR ks r := by
  obtain ⟨h1, i, h2, h3, h4⟩ := sliceOf_spec ht
  have hc : P.cellsOf e = s := by simp [Program.cellsOf, h2, h3]
  rcases Go.Deep.open_slice h1 h with ⟨rfl, rfl⟩ | ⟨a, len, cap, m, n', D, Pl, rfl, hb, hlc, hcm, hm, rfl, hel⟩
  · exact ⟨none, [], 0, rfl, Nat.le_refl _, Nat.zero_le _, Sl.nil _ _ _, by simp⟩
  · rw [hc] at hel
    have hlm : len ≤ m := by rw [hm]; split <;> omega
    let f : Nat → List Value := fun i => (w.cells? base (a.add (i * s)) s).getD []
    have hf : ∀ i, i < len → w.cells? base (a.add (i * s)) s = some (f i) ∧ fitsR ks (f i) := fun i hi => by
      obtain ⟨cs', g1, g2⟩ := hel i (by omega)
      have hl := (World.cells?_some g1).2.1
      have e : f i = cs' := by simp only [f, g1, Option.getD_some]
      rw [e]
      exact ⟨g1, trod_flat 6 hk (by omega) g2⟩
    have hlen : ((List.range len).map f).length = len := by simp
    refine ⟨some a, (List.range len).map f, cap, by rw [hlen], by omega, hcm, ⟨fun _ => rfl, fun i r hr => ?_⟩, fun r hr => ?_⟩
    · rw [List.getElem?_map] at hr
      by_cases hi : i < len
      · rw [List.getElem?_range hi] at hr
        cases hr
        obtain ⟨_, g2, g3⟩ := World.cells?_some (hf i hi).1
        intro j v hj
        have hjl : j < s := by
          rw [← g2]
          rcases Nat.lt_or_ge j (f i).length with q | q
          · exact q
          · rw [List.getElem?_eq_none q] at hj; cases hj
        simp only [Option.getD_some]
        rw [g3 j hjl, hj]
      · rw [List.getElem?_eq_none (by simpa using hi)] at hr; cases hr
    · obtain ⟨i, hi, rfl⟩ := List.mem_map.1 hr
      exact (hf i (List.mem_range.1 hi)).2
theorem rows_of {α : Type} {enc : α → List Value} {ok : α → Prop} : ∀ (rows : List (List Value)), (∀ r ∈ rows, ∃ x, r = enc x ∧ ok x) → ∃ l : List α, rows = l.map enc ∧ ∀ x ∈ l, ok x
  | [], _ => ⟨[], rfl, by simp⟩
  | r :: rows, h => by
    obtain ⟨x, rfl, hx⟩ := h r (by simp)
    obtain ⟨l, rfl, hl⟩ := rows_of rows (fun r hr => h r (by simp [hr]))
    exact ⟨x :: l, rfl, by intro y hy; rcases List.mem_cons.1 hy with rfl | hy; exact hx; exact hl y hy⟩
theorem open_sl {α : Type} (f : α → List Value) (ok : α → Prop) {t e s by_ ks v d ps r b} (ht : sliceOf P t = some (e, s, by_)) (hk : flatK P 6 e = some ks) (hs : s = ks.length) (hf : ∀ r, fitsR ks r → ∃ x, r = f x ∧ ok x) (hok : Value.okWide P w r b t v) (h : DataW.Trod enc P w base spare held t v d ps) :
    ∃ (a : Option Addr) (l : List α) (c : Nat), v = .slice a l.length c ∧ l.length ≤ c ∧ c ≤ maxLen ∧ Sl w a s (l.map f) ∧ ∀ x ∈ l, ok x := by
  obtain ⟨n, hn⟩ := h
  obtain ⟨a, rows, c, h1, h2, h3, h4, h5⟩ := trod_sl ht hk hs hn
  obtain ⟨l, rfl, hl⟩ := rows_of rows (fun r hr => hf r (h5 r hr))
  rw [List.length_map] at h1 h2
  have hv : v = .slice a l.length c := by
    have hu := (sliceOf_spec ht).1
    cases v with
    | agg cs => simp [Value.okWide, hu, Cell.okWide, Cell.ok] at hok
    | slice a' n' c' => simpa [Value.cells] using h1
    | _ => simp [Value.cells] at h1
  exact ⟨a, l, c, hv, h2, h3, h4, hl⟩
end
end Go.XL
set_option linter.unusedVariables false
set_option linter.unusedSimpArgs false
namespace Go.Proofs.YtbjmllnddanniaaGreat
open Go Go.XL
theorem wfI {a : Int} (h : (Lit.int .i64 a).wf = true) : I64 a := by
  simp [Lit.wf, IntKind.min, IntKind.max, IntKind.signed, IntKind.bits] at h
  unfold I64
  omega
theorem fitI {v : Value} (h : fitR (some .i64) v) : ∃ a, v = .int .i64 a ∧ I64 a := by
  obtain ⟨a, h1, h2⟩ := fitR_int h
  exact ⟨a, h1, wfI h2⟩
def n7 : Node := ⟨1, 0, 7, 0, 0, 0, 0, 0, 0, 0, 0, 0, 0, 0, 0, 0⟩
open Go Go.XL
theorem ar0_I (w w' : World) (na fa : Option Addr) (A : Ar) : ArI w w' na fa A none none ar0 := fun N _ _ u _ => ⟨Sl.nil _ _ _, Sl.nil _ _ _, by simp [ar0], by simp [ar0]⟩
theorem make_form {A : Ar} {x : Node} {w w' : World} {na fa : Option Addr} {v : Value} (h : ¬ mayMake A x ∧ v = .tuple #[arV0, .int .u64 0, .int .i64 1] ∨ mayMake A x ∧ A.free.length = 0 ∧ v = .tuple #[arV0, .int .u64 0, .int .i64 2] ∨
      mayMake A x ∧ 0 < A.free.length ∧ ∃ av, v = .tuple #[av, .int .u64 (makeR A), .int .i64 0] ∧ ArO w w' na fa A av (makeA A x)) :
    ∃ na' fa' nc' fc' B r e, v = .tuple #[arV na' fa' nc' fc' B, .int .u64 r, .int .i64 e] ∧ B.nodes.length ≤ nc' ∧ B.free.length ≤ fc' ∧ ArI w w' na fa A na' fa' B ∧
      (e = 0 → mayMake A x ∧ 0 < A.free.length ∧ B = makeA A x ∧ r = makeR A) ∧ (¬ e = 0 → B = ar0 ∧ r = 0 ∧ (¬ mayMake A x ∧ e = 1 ∨ mayMake A x ∧ A.free.length = 0 ∧ e = 2)) := by
  rcases h with ⟨h1, rfl⟩ | ⟨h1, h2, rfl⟩ | ⟨h1, h2, av, rfl, na', fa', nc', fc', rfl, h3, h4, h5⟩
  · exact ⟨none, none, 0, 0, ar0, 0, 1, rfl, by decide, by decide, ar0_I _ _ _ _ _, fun h => absurd h (by decide), fun _ => ⟨rfl, rfl, .inl ⟨h1, rfl⟩⟩⟩
  · exact ⟨none, none, 0, 0, ar0, 0, 2, rfl, by decide, by decide, ar0_I _ _ _ _ _, fun h => absurd h (by decide), fun _ => ⟨rfl, rfl, .inr ⟨h1, h2, rfl⟩⟩⟩
  · exact ⟨na', fa', nc', fc', _, _, 0, rfl, h3, h4, h5, fun _ => ⟨h1, h2, rfl, rfl⟩, fun h => absurd rfl h⟩
structure Ft (M : Nat → Prop) (I : World → Prop) (w : World) : Prop where
  lt : ∀ k, M k → k < w.heap.size
  imm : ∀ w', Agr (fun k => ¬ M k) w w' → I w'
theorem Ft.now {M I w} (h : Ft M I w) : I w := h.imm w (Agr.refl _ _)
theorem Ft.step {M I w w'} {N : Nat → Prop} (h : Ft M I w) (a : Agr N w w') (hn : ∀ k, M k → ¬ N k) : Ft M I w' :=
  ⟨fun k hk => Nat.lt_of_lt_of_le (h.lt k hk) a.size, fun w'' a' => h.imm w'' ((a.mono fun k _ e hk => hn k hk e).trans a')⟩
theorem Ft.sub {M I w w'} (h : Ft M I w) (s : Sub w w') : Ft M I w' := h.step (N := fun _ => False) s.agr (fun _ _ e => e)
theorem Ft.updD {M I w w' b} (h : Ft M I w) (a : Agr (· = b) w w') (d : ∀ k, M k → k ≠ b) : Ft M I w' := h.step a d
theorem Ft.neNew {M I w b} (h : Ft M I w) (hb : b = w.heap.size) : ∀ k, M k → k ≠ b := fun k hk e => absurd (h.lt k hk) (by omega)
theorem Ft.ge {M I w} (h : Ft M I w) : ∀ k, M k → 0 ≤ k ∧ k < w.heap.size := fun k hk => ⟨Nat.zero_le _, h.lt k hk⟩
theorem Ft.imp {M} {I J : World → Prop} {w} (h : Ft M I w) (k : ∀ u, I u → J u) : Ft M J w := ⟨h.lt, fun w' a => k _ (h.imm w' a)⟩
theorem Ft.of_sub {I : World → Prop} {w} (h : ∀ u, Sub w u → I u) : Ft (· < w.heap.size) I w :=
  ⟨fun _ hk => hk, fun u a => h u ⟨a.os, a.tape, a.output, a.size, fun k hk => a.block k hk (fun hn => hn hk)⟩⟩
theorem obDF {w : World} {v v' : Value} {M : Nat → Prop} (h : ob v' = ob v ∨ ∃ c, ob v' = some c ∧ w.heap.size ≤ c) (d : ∀ k, ob v = some k → M k → False) (h2 : ∀ k, M k → k < w.heap.size) : ∀ k, ob v' = some k → M k → False := by
  intro k hk hk2
  rcases h with h | ⟨c, h1, h3⟩
  · exact d k (h ▸ hk) hk2
  · rw [h1] at hk; cases hk; have := h2 _ hk2; omega
def Mnew (M : Nat → Prop) (w w' : World) : Nat → Prop := fun k => M k ∨ w.heap.size ≤ k ∧ k < w'.heap.size
theorem Ft.ans {M} {I J : World → Prop} {w w'} (h : Ft M I w) (k : ∀ N : Nat → Prop, (∀ k, N k → k < w.heap.size) → Imm N I w → Imm N J w') (s : Sub w w') : Ft (Mnew M w w') J w' := by
  refine ⟨fun k hk => hk.elim (fun h' => Nat.lt_of_lt_of_le (h.lt k h') s.size) (fun h' => h'.2), fun u a => ?_⟩
  refine k (fun k => k < w.heap.size ∧ ¬ M k) (fun k hk => hk.1) (fun u' a' => h.imm u' (a'.mono fun k _ e => e.2)) u (a.mono fun k hk e => ?_)
  refine ⟨Nat.lt_of_not_le fun h' => e (.inr ⟨h', hk⟩), fun h' => e (.inl h')⟩
theorem Ft.new {J : World → Prop} {w w'} (k : ∀ N : Nat → Prop, (∀ k, N k → k < w.heap.size) → Imm N J w') (s : Sub w w') : Ft (Mnew (fun _ => False) w w') J w' := by
  refine ⟨fun k hk => hk.elim False.elim (fun h' => h'.2), fun u a => ?_⟩
  refine k (fun k => k < w.heap.size) (fun k hk => hk) u (a.mono fun k hk e => ?_)
  exact Nat.lt_of_not_le fun h' => e (.inr ⟨h', hk⟩)
theorem neFt {M : Nat → Prop} {w w' : World} {b : Nat} (d : ∀ k, M k → k ≠ b) (hb : b < w.heap.size) : ∀ k, Mnew M w w' k → k ≠ b := fun k hk => hk.elim (d k) (fun h e => by omega)
theorem agLe {N : Nat → Prop} {w0 w : World} {b : Nat} (h : Agr N w0 w) (e : b = w.heap.size) : w0.heap.size ≤ b := by rw [e]; exact h.size
theorem agNew {N : Nat → Prop} {w0 w w' : World} {b : Nat} (h : Agr N w0 w) (a : Agr (· = b) w w') (g : w0.heap.size ≤ b) : Agr N w0 w' :=
  ⟨a.os.trans h.os, a.tape.trans h.tape, a.output.trans h.output, Nat.le_trans h.size a.size, fun k hk hn => (a.block k (Nat.lt_of_lt_of_le hk h.size) (fun (e : k = b) => absurd hk (by omega))).trans (h.block k hk hn)⟩
theorem agNew2 {D : Nat → Prop} {b : Nat} {w w1 w2 : World} (G : Agr D w w1) (ag : Agr (fun k => k = b ∨ D k) w1 w2) (ge : w.heap.size ≤ b) : Agr D w w2 :=
  ⟨ag.os.trans G.os, ag.tape.trans G.tape, ag.output.trans G.output, Nat.le_trans G.size ag.size, fun i hi hn =>
    (ag.block i (Nat.lt_of_lt_of_le hi G.size) (fun e => e.elim (fun e => by omega) hn)).trans (G.block i hi hn)⟩
theorem Ft.self {M : Nat → Prop} {I : World → Prop} {w : World} (h : Ft M I w) : Ft M (fun u => Ft M I u) w := ⟨h.lt, fun u a => h.step a (fun k hk hn => hn hk)⟩
theorem _root_.Go.XL.Has.ft {w : World} {b e : Nat} {cs : List Value} (h : Has w b cs e) : Ft (· = b) (fun u => Has u b cs e) w := ⟨fun k hk => hk ▸ h.lt, fun u a => h.step a (fun hn => hn rfl)⟩
theorem Ft.and {M M' : Nat → Prop} {I J : World → Prop} {w : World} (h : Ft M I w) (k : Ft M' J w) : Ft (fun x => M x ∨ M' x) (fun u => I u ∧ J u) w :=
  ⟨fun x hx => hx.elim (h.lt x) (k.lt x), fun u a => ⟨h.imm u (a.mono fun x _ e hx => e (.inl hx)), k.imm u (a.mono fun x _ e hx => e (.inr hx))⟩⟩
theorem _root_.Go.XL.Ows.ft {base e sz v rows} {w : World} (h : Ows base w e sz v rows) : Ft (fun k => ob v = some k) (fun u => Ows base u e sz v rows) w :=
  ⟨fun k hk => (h.ge k hk).2, fun u a => h.step a (fun k hk hn => hn hk)⟩
theorem _root_.Go.XL.Ows.low {base base' : Nat} {w : World} {e : TypeId} {sz : Nat} {v : Value} {rows : List (List Value)} (h : Ows base w e sz v rows) (hb : base' ≤ base) : Ows base' w e sz v rows := by
  obtain ⟨⟨h1, h2⟩, h3⟩ := h
  refine ⟨⟨h1, h2.imp id ?_⟩, h3⟩
  rintro ⟨b, cap, ex, e, hb2, rest⟩
  exact ⟨b, cap, ex, e, Nat.le_trans hb hb2, rest⟩
theorem getA_rng {A : Ar} {r : Int} {x : Node} (h : getA A r = some x) : 0 ≤ placeR r ∧ placeR r < A.nodes.length := by
  unfold getA at h
  split at h
  · cases h
  · split at h
    · cases h
    · rename_i y hy
      have := lt_of_get hy
      omega
theorem getA_nok {A : Ar} {r : Int} {x : Node} (h : getA A r = some x) : x ∈ A.nodes := by
  unfold getA at h
  split at h
  · cases h
  · split at h
    · cases h
    · rename_i y hy
      split at h
      · cases h
      · cases h; exact List.mem_of_getElem? hy
theorem getA_get {A : Ar} {r : Int} {x : Node} (h : getA A r = some x) : A.nodes[(placeR r).toNat]? = some x ∧ ¬ x.kind = 0 := by
  unfold getA at h
  split at h
  · cases h
  · split at h
    · cases h
    · rename_i y hy
      split at h
      · cases h
      · rename_i hn; cases h; exact ⟨hy, fun e => hn (.inl e)⟩
theorem placeR_not {r : Int} (h : ¬ nodeR r) : placeR r = -1 := if_neg h
theorem add_add (a : Addr) (i j : Nat) : (a.add i).add j = a.add (i + j) := by
  unfold Addr.add
  by_cases hi : i = 0
  · subst hi; simp
  · by_cases hj : j = 0
    · subst hj; simp
    · rw [if_neg hj, if_neg hi, if_neg (by omega), Nat.add_assoc]
theorem getV_form2 (A : Ar) (r : Int) : ∃ (y : Node) (e : Int), getV A r = .tuple #[y.val, .int .i64 e] ∧ (∀ x, getA A r = some x → y = x ∧ e = 0) ∧ (getA A r = none → y = bareN 0 ∧ e = 4) := by
  cases h : getA A r with
  | none => exact ⟨bareN 0, 4, getV_no h, fun x h => (by cases h), fun _ => ⟨rfl, rfl⟩⟩
  | some x => exact ⟨x, 0, getV_yes h, fun y h => (by cases h; exact ⟨rfl, rfl⟩), fun h => (by cases h)⟩
theorem getA_same {A B : Ar} {r : Int} (h : A.nodes[(placeR r).toNat]? = B.nodes[(placeR r).toNat]?) : getA A r = getA B r := by unfold getA; rw [h]
structure Ext (A A' : Ar) : Prop where
  len : A'.nodes.length = A.nodes.length
  keep : ∀ (i : Nat) x, A.nodes[i]? = some x → ¬ x.kind = 0 → A'.nodes[i]? = some x
theorem Ext.refl (A : Ar) : Ext A A := ⟨rfl, fun _ _ h _ => h⟩
theorem Ext.trans {A B C : Ar} (h : Ext A B) (k : Ext B C) : Ext A C := ⟨k.len.trans h.len, fun i x hx hk => k.keep i x (h.keep i x hx hk) hk⟩
theorem Ext.get {A A' : Ar} {r : Int} {x : Node} (h : Ext A A') (hg : getA A r = some x) : getA A' r = some x := by
  have h1 := getA_get hg
  rw [← getA_same (A := A) (B := A') (by rw [h1.1, h.keep _ _ h1.1 h1.2])]
  exact hg
theorem make_ext {A : Ar} {x : Node} (hA : AOk A) (h : 0 < A.free.length) : Ext A (makeA A x) := by
  refine ⟨by simp [makeA], fun i y hy hk => ?_⟩
  have hin := lastAt_in hA h
  simp only [makeA]
  rw [List.getElem?_set_ne, hy]
  intro e
  have := (hA.kind i y hy).2 (by
    have h2 := List.mem_of_getElem? (lastAt_get h)
    rwa [show lastAt A = (i : Int) by omega] at h2)
  exact hk this

abbrev St := Ar × Int
structure Gs (n : Nat) (s s' : St) : Prop where
  ext : Ext s.1 s'.1
  ok : AOk s'.1
  free : s.1.free.length ≤ s'.1.free.length + n
  stay : ¬ s.2 = 0 → s'.2 = s.2
  full : s.2 = 0 → ¬ s'.2 = 0 → s'.2 = 2 ∧ s.1.free.length < n
theorem Gs.back {n : Nat} {s s' : St} (h : Gs n s s') (h0 : s'.2 = 0) : s.2 = 0 := Classical.byContradiction fun e => e (by rw [← h.stay e]; exact h0)
theorem Gs.refl {s : St} (h : AOk s.1) : Gs 0 s s := ⟨Ext.refl _, h, Nat.le_refl _, fun _ => rfl, fun h k => absurd h k⟩
theorem Gs.mono {n m : Nat} {s s' : St} (h : Gs n s s') (hn : n ≤ m) : Gs m s s' := ⟨h.ext, h.ok, by have := h.free; omega, h.stay, fun a b => ⟨(h.full a b).1, by have := (h.full a b).2; omega⟩⟩
theorem Gs.trans {n m : Nat} {a b c : St} (h : Gs n a b) (k : Gs m b c) : Gs (n + m) a c := by
  refine ⟨h.ext.trans k.ext, k.ok, by have := h.free; have := k.free; omega, fun e => ?_, fun e e2 => ?_⟩
  · have h1 := h.stay e
    rw [k.stay (by rw [h1]; exact e), h1]
  · by_cases q : b.2 = 0
    · have h1 := k.full q e2; have h2 := h.free; exact ⟨h1.1, by omega⟩
    · have h1 := h.full e q
      exact ⟨by rw [k.stay q, h1.1], by omega⟩
def sizeA (A : Ar) (r : Int) : Int := match getA A r with
  | none => 0
  | some y => y.s
def MkX (s : St) (x : Node) (s' : St) (r : Int) : Prop :=
  (¬ s.2 = 0 ∧ s' = s ∧ r = 0) ∨ (s.2 = 0 ∧ mayMake s.1 x ∧ 0 < s.1.free.length ∧ s' = (makeA s.1 x, 0) ∧ r = makeR s.1) ∨
  (s.2 = 0 ∧ mayMake s.1 x ∧ s.1.free.length = 0 ∧ s' = (s.1, 2) ∧ r = 0) ∨ (s.2 = 0 ∧ ¬ mayMake s.1 x ∧ s' = (s.1, 1) ∧ r = 0)
theorem MkX.gs {s s' : St} {x : Node} {r : Int} (h : MkX s x s' r) (hA : AOk s.1) (hm : s.2 = 0 → mayMake s.1 x) : Gs 1 s s' := by
  rcases h with ⟨h0, rfl, rfl⟩ | ⟨h0, hm, hf, rfl, rfl⟩ | ⟨h0, hm, hf, rfl, rfl⟩ | ⟨h0, hn, rfl, rfl⟩
  · exact (Gs.refl hA).mono (by omega)
  · refine ⟨make_ext hA hf, make_ok hm hf, ?_, fun e => absurd h0 e, fun _ e => absurd rfl e⟩
    simp only [makeA, List.length_take]; omega
  · exact ⟨Ext.refl _, hA, by omega, fun e => absurd h0 e, fun _ _ => ⟨rfl, by omega⟩⟩
  · exact absurd (hm h0) hn
theorem MkX.u64 {s s' : St} {x : Node} {r : Int} (h : MkX s x s' r) : U64 r := by
  rcases h with ⟨_, _, rfl⟩ | ⟨_, hm, hf, _, rfl⟩ | ⟨_, _, _, _, rfl⟩ | ⟨_, _, _, rfl⟩
  · unfold U64; decide
  · exact ofR_U64 (make_isR hm.1 hf)
  · unfold U64; decide
  · unfold U64; decide
theorem MkX.get {s s' : St} {x : Node} {r : Int} (h : MkX s x s' r) (h0 : s'.2 = 0) : s.2 = 0 ∧ mayMake s.1 x ∧ 0 < s.1.free.length ∧ getA s'.1 r = some { x with gen := genAt s.1 (lastAt s.1) } ∧ Ext s.1 s'.1 := by
  rcases h with ⟨h1, rfl, rfl⟩ | ⟨h1, hm, hf, rfl, rfl⟩ | ⟨_, _, _, rfl, _⟩ | ⟨_, _, rfl, _⟩
  · exact absurd h0 h1
  · exact ⟨h1, hm, hf, get_made hm hf, make_ext hm.1 hf⟩
  · exact absurd h0 (show ¬ (2 : Int) = 0 by decide)
  · exact absurd h0 (show ¬ (1 : Int) = 0 by decide)
def getN (A : Ar) (r : Int) : Node := (getA A r).getD (bareN 0)
theorem getN_s (A : Ar) (r : Int) : (getN A r).s = sizeA A r := by
  unfold getN sizeA
  cases getA A r <;> rfl
theorem getN_yes {A : Ar} {r : Int} {x : Node} (h : getA A r = some x) : getN A r = x := by unfold getN; rw [h]; rfl
theorem getN_v (A : Ar) (r : Int) : ∃ e, getV A r = .tuple #[(getN A r).val, .int .i64 e] := by
  unfold getN
  cases h : getA A r with
  | none => exact ⟨4, getV_no h⟩
  | some x => exact ⟨0, getV_yes h⟩
def wvC (na fa : Option Addr) (nc fc : Nat) (A : Ar) (bad : Int) : List Value := [.slice na A.nodes.length nc, .slice fa A.free.length fc, .int .i64 bad]
def wvA (na fa : Option Addr) (nc fc : Nat) (A : Ar) : List Value := [.slice na A.nodes.length nc, .slice fa A.free.length fc]
theorem row_pref {w : World} {b : Nat} {xs ys : List Value} {e : TypeId} (h : Has w b (xs ++ ys) e) : Row w ⟨b, 0, none⟩ xs := fun i v hv => h.row i v (by rw [List.getElem?_append_left (lt_of_get hv)]; exact hv)
def FoG (ty : TypeId) (b : Nat) (s : St) (C : Nat → Prop) (u : World) : Prop :=
  C b ∧ ∃ na fa nc fc M, Has u b (wvC na fa nc fc s.1 s.2) ty ∧ s.1.nodes.length ≤ nc ∧ s.1.free.length ≤ fc ∧ Ft M (fun u => ArR u na fa s.1) u ∧ ¬ M b ∧ ∀ k, M k → C k
theorem FoG.ft {ty : TypeId} {b : Nat} {s : St} {M : Nat → Prop} {w : World} {na fa : Option Addr} {nc fc : Nat} (h : Has w b (wvC na fa nc fc s.1 s.2) ty) (h1 : s.1.nodes.length ≤ nc) (h2 : s.1.free.length ≤ fc) (h3 : Ft M (fun u => ArR u na fa s.1) w) (h4 : ¬ M b) :
    Ft (fun k => k = b ∨ M k) (FoG ty b s (fun k => k = b ∨ M k)) w :=
  ⟨fun k hk => hk.elim (fun e => e ▸ h.lt) (h3.lt k), fun u a => ⟨.inl rfl, na, fa, nc, fc, M, h.step a (fun hn => hn (.inl rfl)), h1, h2, h3.step a (fun k hk hn => hn (.inr hk)), h4, fun k hk => .inr hk⟩⟩
theorem FoG.nok {ty : TypeId} {b : Nat} {s : St} {C : Nat → Prop} {u : World} (h : FoG ty b s C u) : ∀ x ∈ s.1.nodes, x.ok := by
  obtain ⟨_, na, fa, nc, fc, M, _, _, _, h, _⟩ := h
  exact h.now.nok
theorem zu0 : U64 0 := by unfold U64; decide
def freeB (size i : Nat) : List Int := (List.range i).map fun (j : Nat) => (size : Int) - 1 - j
theorem row_set0 {w : World} {b : Nat} {e : TypeId} {sz : Nat} {rows : List (List Value)} {r : List Value} {i : Nat} (h : Has w b (splice rows.flatten (i * sz) r) e) (hl : ∀ r ∈ rows, r.length = sz) (hi : i < rows.length) (hr : r.length = sz) : Has w b (rows.set i r).flatten e := by
  have := Has.row_set (extra := []) (rows := rows) (i := i) (sz := sz) (r := r) (by rw [List.append_nil]; exact h) hl hi hr
  rw [List.append_nil] at this
  exact this
theorem slDrop {w : World} {a : Option Addr} {sz : Nat} {rows : List (List Value)} (h : Sl w a sz rows) (k : Nat) {c : Nat} (hc : rows.length ≤ c) : Sl w (if c = k then a else a.map (·.add (k * sz))) sz (rows.drop k) := by
  by_cases e : c = k
  · rw [if_pos e, List.drop_eq_nil_of_le (by omega)]; exact Sl.nil _ _ _
  · rw [if_neg e]
    refine ⟨fun hne => ?_, fun i r hr => ?_⟩
    · have := h.some (by intro e2; rw [e2] at hne; simp at hne)
      cases a with
      | none => simp at this
      | some x => rfl
    · rw [List.getElem?_drop] at hr
      have h1 := h.row (k + i) r hr
      have := h.some (by intro e2; rw [e2] at hr; simp at hr)
      cases a with
      | none => simp at this
      | some x =>
        simp only [Option.map_some, Option.getD_some] at h1 ⊢
        rw [add_add, ← Nat.add_mul]
        exact h1
theorem slDropM {α : Type} {w : World} {a : Option Addr} {sz : Nat} {f : α → List Value} {l : List α} (h : Sl w a sz (l.map f)) (k : Nat) {c : Nat} (hc : l.length ≤ c) : Sl w (if c = k then a else a.map (·.add (k * sz))) sz ((l.drop k).map f) := by rw [List.map_drop]; exact slDrop h k (by rw [List.length_map]; exact hc)
theorem splice_eq (vs cs : List Value) (o : Nat) (h : o + vs.length ≤ cs.length) : splice cs o vs = cs.take o ++ vs ++ cs.drop (o + vs.length) := by
  refine List.ext_getElem? (fun k => ?_)
  rw [splice_get]
  have h1 : (cs.take o).length = o := by rw [List.length_take]; omega
  have h2 : (cs.take o ++ vs).length = o + vs.length := by rw [List.length_append, h1]
  by_cases q : k < o
  · rw [if_pos (by omega), if_neg (by omega), List.getElem?_append_left (by omega), List.getElem?_append_left (by omega), List.getElem?_take_of_lt q]
  · by_cases q2 : k < o + vs.length
    · rw [if_pos (by omega), if_pos ⟨by omega, q2⟩, List.getElem?_append_left (by omega), List.getElem?_append_right (by omega), h1]
    · rw [List.getElem?_append_right (by omega), h2, List.getElem?_drop]
      by_cases q3 : k < cs.length
      · rw [if_pos q3, if_neg (by omega), show o + vs.length + (k - (o + vs.length)) = k by omega]
      · rw [if_neg q3, List.getElem?_eq_none (by omega)]
theorem flat_take {s : Nat} {R : List (List Value)} (h : ∀ r ∈ R, r.length = s) (o : Nat) (ho : o ≤ R.length) : (R.take o).flatten = R.flatten.take (o * s) ∧ (R.drop o).flatten = R.flatten.drop (o * s) := by
  have hl : (R.take o).flatten.length = o * s := by
    rw [flat_len _ (fun r hr => h r (List.mem_of_mem_take hr)), List.length_take, Nat.min_eq_left ho]
  have e : R.flatten = (R.take o).flatten ++ (R.drop o).flatten := by rw [← List.flatten_append, List.take_append_drop]
  rw [e, ← hl]
  exact ⟨List.take_left.symm, List.drop_left.symm⟩
def blit (R : List (List Value)) (o : Nat) (l : List (List Value)) : List (List Value) := R.take o ++ l ++ R.drop (o + l.length)
theorem blit_len {R l : List (List Value)} {o : Nat} (h : o + l.length ≤ R.length) : (blit R o l).length = R.length := by
  unfold blit; rw [List.length_append, List.length_append, List.length_take, List.length_drop]; omega
theorem blit_rows {s : Nat} {R l : List (List Value)} {o : Nat} (hR : ∀ r ∈ R, r.length = s) (hl : ∀ r ∈ l, r.length = s) : ∀ r ∈ blit R o l, r.length = s := by
  intro r hr
  unfold blit at hr
  rcases List.mem_append.1 hr with hr | hr
  · rcases List.mem_append.1 hr with hr | hr
    · exact hR r (List.mem_of_mem_take hr)
    · exact hl r hr
  · exact hR r (List.mem_of_mem_drop hr)
theorem blit_take {R l : List (List Value)} {o : Nat} (h : o + l.length ≤ R.length) : (blit R o l).take o = R.take o ∧ (blit R o l).take (o + l.length) = R.take o ++ l := by
  unfold blit
  have h1 : (R.take o).length = o := by rw [List.length_take]; omega
  have h2 : (R.take o ++ l).length = o + l.length := by rw [List.length_append, h1]
  constructor
  · rw [List.append_assoc, List.take_append_of_le_length (by omega), List.take_of_length_le (by omega)]
  · rw [List.take_append_of_le_length (by omega), List.take_of_length_le (by omega)]
theorem Has.slN {w : World} {b : Nat} {e : TypeId} {s : Nat} {R : List (List Value)} (h : Has w b R.flatten e) (hR : ∀ r ∈ R, r.length = s) (k : Nat) : Sl w (some ⟨b, 0, none⟩) s (R.take k) := (h.sl0 hR).take k
theorem sl_at {g lo cap m c s : Nat} (h : ¬ cap = lo) : Value.slice (if cap = lo then some ⟨g, 0, none⟩ else (some ⟨g, 0, none⟩ : Option Addr).map (·.add (lo * s))) m c = .slice (some ⟨g, lo * s, none⟩) m c := by
  rw [if_neg h]; simp [Addr.add_lit]
theorem sl_drop_at {w : World} {g s : Nat} {R : List (List Value)} (h : Sl w (some ⟨g, 0, none⟩) s R) (i : Nat) : Sl w (some ⟨g, i * s, none⟩) s (R.drop i) := by
  refine ⟨fun _ => rfl, fun j r hr => ?_⟩
  rw [List.getElem?_drop] at hr
  have := h.row (i + j) r hr
  simp only [Option.getD_some, Addr.add_lit] at this ⊢
  rw [← Nat.add_mul]
  simpa using this
theorem splice_blit {s : Nat} {R l : List (List Value)} {o : Nat} (hR : ∀ r ∈ R, r.length = s) (hl : ∀ r ∈ l, r.length = s) (h : o + l.length ≤ R.length) : splice R.flatten (o * s) l.flatten = (blit R o l).flatten := by
  have e1 := flat_len R hR
  have e2 := flat_len l hl
  have e3 : (o + l.length) * s ≤ R.length * s := Nat.mul_le_mul_right _ h
  rw [splice_eq _ _ _ (by rw [e1, e2, ← Nat.add_mul]; exact e3)]
  unfold blit
  rw [List.flatten_append, List.flatten_append, (flat_take hR o (by omega)).1, (flat_take hR (o + l.length) h).2, e2, ← Nat.add_mul]
theorem Sl.flatRow {w : World} {ad : Addr} {s : Nat} {l : List (List Value)} (hs' : 0 < s) (hll : ∀ r ∈ l, r.length = s) (hsl : Sl w (some ad) s l) : Row w ad l.flatten := by
  intro j u hj
  have hjl : j < l.length * s := by
    rw [← flat_len l hll]
    rcases Nat.lt_or_ge j l.flatten.length with q | q
    · exact q
    · rw [List.getElem?_eq_none q] at hj; cases hj
  have hd' : j / s < l.length := (Nat.div_lt_iff_lt_mul hs').2 hjl
  have hmod : j % s < s := Nat.mod_lt _ hs'
  have ej : j = (j / s) * s + j % s := by rw [Nat.mul_comm]; exact (Nat.div_add_mod j s).symm
  obtain ⟨r, hr⟩ : ∃ r, l[j / s]? = some r := ⟨_, List.getElem?_eq_getElem hd'⟩
  have hf := flat_get l hll (j / s) (j % s) r hr hmod
  rw [← ej, hj] at hf
  have hc := hsl.row (j / s) r hr (j % s) u hf.symm
  simp only [Option.getD_some] at hc
  rw [← hc]
  congr 1
  rw [ej]
  obtain ⟨bb, oo, sp⟩ := ad
  unfold Addr.add
  by_cases q1 : (j / s) * s = 0
  · rw [← ej]
    by_cases q2 : j % s = 0
    · rw [if_pos (by omega), if_pos q1, if_pos q2]
    · rw [if_neg (by omega), if_pos q1, if_neg q2]; simp only; congr 2; omega
  · rw [← ej]
    by_cases q2 : j % s = 0
    · rw [if_neg (by omega), if_neg q1, if_pos q2]; congr 1; omega
    · rw [if_neg (by omega), if_neg q1, if_neg q2]; simp only; congr 1; omega
theorem plain_flat {l : List (List Value)} (hp : l.all (fun r => r.all plainV) = true) : l.flatten.all plainV = true := by
  rw [List.all_eq_true]
  intro u hu
  obtain ⟨r, hr, hur⟩ := List.mem_flatten.1 hu
  exact List.all_eq_true.1 (List.all_eq_true.1 hp r hr) u hur
section
variable {P : Program} {n : Cx} {F : List (Nat × Value)} {w : World} {p : Post} {ops : Array Oper} {rest : List Oper} {d : Option Tmp} {t : TypeId} {pos : String} {af : Array Edge} {g : Option (Nat × Bool)}
theorem run_copyB {ty ty2 t : TypeId} {b o m c : Nat} {sa : Option Addr} {k c2 e s by_ e0 : Nat} {R l : List (List Value)} (ht : sliceOf P ty = some (e, s, by_)) (hs' : 0 < s) (hb : Has w b R.flatten e0) (hR : ∀ r ∈ R, r.length = s) (ho : o + min k m ≤ R.length) (hs : Sl w sa s l) (hk : k = l.length) (hl : ∀ r ∈ l, r.length = s) (hp : (l.take (min k m)).all (fun r => r.all plainV) = true) :
    ∃ w', (Builtin.copy_ #[ty, ty2] t #[.slice (some ⟨b, o * s, none⟩) m c, .slice sa k c2]).run P w = .ok (.int .i64 (min k m : Nat)) w' ∧ Has w' b (blit R o (l.take (min k m))).flatten e0 ∧ Agr (· = b) w w' ∧ w'.heap.size = w.heap.size := by
  obtain ⟨h1, i, h2, h3, h4⟩ := sliceOf_spec ht
  have hl' : ∀ r ∈ l.take (min k m), r.length = s := fun r hr => hl r (List.mem_of_mem_take hr)
  have hpl : (l.take (min k m)).flatten.all plainV = true := plain_flat hp
  have hlen : (l.take (min k m)).length = min k m := by rw [List.length_take]; omega
  have hfl : (l.take (min k m)).flatten.length = min k m * s := by rw [flat_len _ hl', hlen]
  have hcells : (Builtin.firstCells i.size (min k m) (.slice sa k c2)).run P w = .ok (l.take (min k m)).flatten.toArray w := by
    cases sa with
    | none =>
      have : l = [] := Classical.byContradiction fun e => by have := hs.some e; simp at this
      subst this
      simp [Builtin.firstCells, pure]
    | some a =>
      have hr := XL.run_loadCells (P := P) (Sl.flatRow hs' hl' (hs.take (min k m)))
      rw [hfl] at hr
      rw [h3]; exact hr
  have hfit : o * s + 0 + (l.take (min k m)).flatten.length ≤ R.flatten.length := by
    rw [hfl, flat_len R hR, Nat.add_zero, ← Nat.add_mul]; exact Nat.mul_le_mul_right _ ho
  obtain ⟨w', g1, g2, g3, g4⟩ := XL.run_storeCells (P := P) (o := o * s) (l.take (min k m)).flatten 0 R.flatten w hb hfit hpl
  refine ⟨w', ?_, ?_, g3, g4⟩
  · have hcells' : (Builtin.firstCells i.size (Nat.min k m) (.slice sa k c2)).run P w = .ok (l.take (min k m)).flatten.toArray w := hcells
    simp [Builtin.copy_, Go.run_underlying h1, sizeOf, typeInfo, h2, Builtin.lenOf, hcells', g1, goInt]
  · rw [Nat.add_zero, splice_blit hR hl' (by rw [hlen]; exact ho)] at g2
    exact g2
theorem RL.copyB {ty ty2 x y b o m c sa k c2 e s by_ e0 R l} (ht : sliceOf P ty = some (e, s, by_)) (hs' : Nat.blt 0 s = true) (hx : XL.ev F x = some (.slice (some ⟨b, o * s, none⟩) m c)) (hy : XL.ev F y = some (.slice sa k c2)) (hb : Has w b R.flatten e0) (hR : ∀ r ∈ R, r.length = s) (ho : o + min k m ≤ R.length) (hs : Sl w sa s l) (hk : k = l.length) (hl : ∀ r ∈ l, r.length = s) (hp : (l.take (min k m)).all (fun r => r.all plainV) = true)
    (hg : gsat ops F g = some true) (hd : inB d n = true)
    (h : ∀ w', w'.heap.size = w.heap.size → Has w' b (blit R o (l.take (min k m))).flatten e0 → Agr (· = b) w w' → RL P n ops rest (upd F d (.int .i64 (min k m : Nat))) w' p) : RL P n ops (⟨d, .call ⟨.builtin .copy, #[x, y], #[ty, ty2]⟩, t, pos, af, g⟩ :: rest) F w p := by
  obtain ⟨w', g1, g2, g3, g4⟩ := run_copyB (ty2 := ty2) (t := t) (m := m) (c := c) (c2 := c2) ht (by simpa using hs') hb hR ho hs hk hl hp
  refine RL.on hg hd (fun ρ hρ => ?_) (h w' g4 g2 g3)
  simp only [execOp, resolve, hρ y _ hy, hρ x _ hx, bind, Sem.bind, pure, invoke, builtin, List.map_toArray, List.map_cons, List.map_nil]
  have := run_bind (P := P) (Builtin.copy_ #[ty, ty2] t #[.slice (some ⟨b, o * s, none⟩) m c, .slice sa k c2]) (fun v => (Sem.pure (Next.value v) : Sem Next)) w
  rw [g1] at this
  exact this
theorem firstCells_sl {w : World} {sa : Option Addr} {k c2 s : Nat} {l : List (List Value)} (hs' : 0 < s) (hs : Sl w sa s l) (hl : ∀ r ∈ l, r.length = s) (m : Nat) (hm : m ≤ l.length) : (Builtin.firstCells s m (.slice sa k c2)).run P w = .ok (l.take m).flatten.toArray w := by
  have hl' : ∀ r ∈ l.take m, r.length = s := fun r hr => hl r (List.mem_of_mem_take hr)
  have hfl : (l.take m).flatten.length = m * s := by rw [flat_len _ hl', List.length_take, Nat.min_eq_left hm]
  cases sa with
  | none =>
    have : l = [] := Classical.byContradiction fun e => by have := hs.some e; simp at this
    subst this
    simp [Builtin.firstCells, pure]
  | some a =>
    have hr := XL.run_loadCells (P := P) (Sl.flatRow hs' hl' (hs.take m))
    rw [hfl] at hr
    exact hr
theorem RL.clearB {ty x b o m c e s by_ z} {R : List (List Value)} (ht : sliceOf P ty = some (e, s, by_)) (hz : zeroOf P e = some z) (hzs : z.cells.size = s) (hs' : Nat.blt 0 s = true) (hzp : z.cells.toList.all plainV = true) (hx : XL.ev F x = some (.slice (some ⟨b, o * s, none⟩) m c)) (hb : Has w b R.flatten e) (hR : ∀ r ∈ R, r.length = s) (ho : o + m ≤ R.length)
    (hg : gsat ops F g = some true) (hd : inB d n = true)
    (h : ∀ w', w'.heap.size = w.heap.size → Has w' b (blit R o (List.replicate m z.cells.toList)).flatten e → Agr (· = b) w w' → RL P n ops rest (upd F d (.tuple #[])) w' p) : RL P n ops (⟨d, .call ⟨.builtin .clear, #[x], #[ty]⟩, t, pos, af, g⟩ :: rest) F w p := by
  have hs2 : 0 < s := by simpa using hs'
  obtain ⟨h1, i, h2, h3, h4⟩ := sliceOf_spec ht
  obtain ⟨i', hi', hzz⟩ := zeroOf_spec hz
  rw [h2] at hi'; cases hi'
  have hl : ∀ r ∈ List.replicate m z.cells.toList, r.length = s := fun r hr => by rw [(List.mem_replicate.1 hr).2, Array.length_toList, hzs]
  have hfl : (List.replicate m z.cells.toList).flatten.length = m * s := by rw [flat_len _ hl, List.length_replicate]
  have hfit : o * s + 0 + (List.replicate m z.cells.toList).flatten.length ≤ R.flatten.length := by
    rw [hfl, flat_len R hR, Nat.add_zero, ← Nat.add_mul]; exact Nat.mul_le_mul_right _ ho
  have hpl : (List.replicate m z.cells.toList).flatten.all plainV = true := plain_flat (by rw [List.all_eq_true]; intro r hr; rw [(List.mem_replicate.1 hr).2]; exact hzp)
  obtain ⟨w', g1, g2, g3, g4⟩ := XL.run_storeCells (P := P) (o := o * s) (List.replicate m z.cells.toList).flatten 0 R.flatten w hb hfit hpl
  have g2 : Has w' b (blit R o (List.replicate m z.cells.toList)).flatten e := by rw [Nat.add_zero, splice_blit hR hl (by rw [List.length_replicate]; exact ho)] at g2; exact g2
  have hzc : Builtin.zeroCells z.cells m = (List.replicate m z.cells.toList).flatten.toArray := by
    unfold Builtin.zeroCells
    exact zeros_list z.cells (by omega) m
  have fin : ∀ w'', (Builtin.clear_ #[ty] t #[.slice (some ⟨b, o * s, none⟩) m c]).run P w = .ok (.tuple #[]) w'' → RL P n ops rest (upd F d (.tuple #[])) w'' p → RL P n ops (⟨d, .call ⟨.builtin .clear, #[x], #[ty]⟩, t, pos, af, g⟩ :: rest) F w p := by
    intro w'' hr hw
    refine RL.on hg hd (fun ρ hρ => ?_) hw
    simp only [execOp, resolve, hρ x _ hx, bind, Sem.bind, pure, invoke, builtin, List.map_toArray, List.map_cons, List.map_nil]
    have := run_bind (P := P) (Builtin.clear_ #[ty] t #[.slice (some ⟨b, o * s, none⟩) m c]) (fun v => (Sem.pure (Next.value v) : Sem Next)) w
    rw [hr] at this
    exact this
  cases m with
  | zero =>
    refine fin w (by simp [Builtin.clear_, Go.run_underlying h1]) (h w rfl ?_ (Agr.refl _ _))
    simpa [blit] using hb
  | succ m =>
    exact fin w' (by simp [Builtin.clear_, Go.run_underlying h1, zeroValue, typeInfo, h2, hzz, hzc, g1]) (h w' g4 g2 g3)
theorem RL.appendZ {ty tn x y b o c k e s by_ z kq kn} {R : List (List Value)} (ht : sliceOf P ty = some (e, s, by_)) (htn : P.underlying tn = some (.int kn)) (hz : zeroOf P e = some z) (hzs : z.cells.size = s) (hs' : Nat.blt 0 s = true) (hy : XL.ev F y = some (.slice (some ⟨b, 0, none⟩) o c)) (hx : XL.ev F x = some (.int kq (k : Nat))) (hb : Has w b R.flatten e) (hR : ∀ r ∈ R, r.length = s) (hk : 0 < k) (hoc : c < o + k) (ho : o ≤ R.length)
    (hlen : (o + k) * by_ ≤ 140737488355328) (hlen' : o + k ≤ 140737488355328) (hg : gsat ops F g = some true) (hd : inB d n = true)
    (h : ∀ b' w' cap ex, b' = w.heap.size → o + k ≤ cap → Has w' b' (R.take o ++ List.replicate k z.cells.toList ++ List.replicate ex z.cells.toList).flatten e → cap = o + k + ex → Sub w w' → RL P n ops rest (upd F d (.slice (some ⟨b', 0, none⟩) (o + k) cap)) w' p) : RL P n ops (⟨d, .call ⟨.builtin .append, #[y, x], #[ty, tn]⟩, t, pos, af, g⟩ :: rest) F w p := by
  have hs2 : 0 < s := by simpa using hs'
  obtain ⟨h1, i, h2, h3, h4⟩ := sliceOf_spec ht
  obtain ⟨i', hi', hzz⟩ := zeroOf_spec hz
  rw [h2] at hi'; cases hi'
  have hold : (Builtin.firstCells i.size o (.slice (some ⟨b, 0, none⟩) o c)).run P w.drew = .ok (R.take o).flatten.toArray w.drew := by
    have hb' : Has w.drew b R.flatten e := hb
    rw [h3]
    exact firstCells_sl hs2 (hb'.sl0 hR) hR o ho
  have hge := grownCap_ge w (o + k) c e
  have hby : k * by_ ≤ (o + k) * by_ := Nat.mul_le_mul_right _ (by omega)
  have hr := Go.Lib.run_append_grow_zeros (P := P) w ty tn t e i z kq kn h1 htn h2 hzz (some ⟨b, 0, none⟩) o c (R.take o).flatten hold k hk (by omega) hoc (by omega) (by rw [h4]; omega) (growslice_fits (by omega) (by rw [h4]; exact hlen))
  have hzc : ∀ m, Builtin.zeroCells z.cells m = (List.replicate m z.cells.toList).flatten.toArray := fun m => by
    unfold Builtin.zeroCells
    exact zeros_list z.cells (by omega) m
  rw [hzc, hzc] at hr
  refine RL.on hg hd (fun ρ hρ => ?_) (h w.heap.size (w.drew.alloc (.cells ((R.take o).flatten.toArray ++ (List.replicate k z.cells.toList).flatten.toArray ++ (List.replicate (grownCap w (o + k) c e - (o + k)) z.cells.toList).flatten.toArray) e)) (grownCap w (o + k) c e) (grownCap w (o + k) c e - (o + k)) rfl hge ?_ (by omega) ⟨rfl, rfl, rfl, by simp, fun k hk => heap_alloc_old' w.drew _ hk⟩)
  · simp only [execOp, resolve, hρ y _ hy, hρ x _ hx, bind, Sem.bind, pure, invoke, builtin, List.map_toArray, List.map_cons, List.map_nil]
    have := run_bind (P := P) (Builtin.append_ #[ty, tn] t #[.slice (some ⟨b, 0, none⟩) o c, .int kq (k : Nat)]) (fun v => (Sem.pure (Next.value v) : Sem Next)) w
    rw [hr] at this
    exact this
  · have := heap_alloc_new w.drew (.cells ((R.take o).flatten.toArray ++ (List.replicate k z.cells.toList).flatten.toArray ++ (List.replicate (grownCap w (o + k) c e - (o + k)) z.cells.toList).flatten.toArray) e)
    unfold Has
    simp only [List.flatten_append]
    simpa using this
theorem RL.overlapsF {f : FuncId} {fn : Func} {x y : Operand} {ts : Array TypeId} {tS tR e1 : TypeId} {a b : Addr} {la ca lb cb s by_ : Nat} {xs ys : List Value} {ea eb : TypeId} (hf : P.funcs[f]? = some fn) (hname : (fn.name == "runtime.NumGoroutine") = false) (hbd : fn.body.isNone = true) (hn : Extern.findNext fn = none) (he : Extern.find fn = some (Extern.SlicesOverlaps.overlaps #[tS, tS] #[tR]))
    (ht : sliceOf P tS = some (e1, s, by_)) (hx : XL.ev F x = some (.slice (some a) la ca)) (hy : XL.ev F y = some (.slice (some b) lb cb)) (ha : Has w a.block xs ea) (hb : Has w b.block ys eb) (hne : a.block ≠ b.block) (hys : ys ≠ [])
    (hg : gsat ops F g = some true) (hd : inB d n = true) (h : RL P n ops rest (upd F d (.bool false)) w p) : RL P n ops (⟨d, .call ⟨.value (.func f), #[x, y], ts⟩, t, pos, af, g⟩ :: rest) F w p := by
  obtain ⟨h1, i, h2, h3, h4⟩ := sliceOf_spec ht
  refine RL.on hg hd (v := .bool false) (w' := w) (fun ρ hρ => ?_) h
  have h0 : ρ (.func f) = .func (.func f) #[] #[] := hρ _ _ rfl
  simp only [execOp, resolve, h0, hρ x _ hx, hρ y _ hy, Deferred.ofValue, bind, Sem.bind, pure, invoke, List.map_toArray, List.map_cons, List.map_nil]
  have hsh : ∀ {k cs e}, Has w k cs e → w.shape? k = some (e, cs.length) := fun {k cs e} h => by
    unfold Has at h; simp [World.shape?, h]
  have ho := Go.Lib.run_overlaps_apart (P := P) w tS tR e1 h1 i.size (fun w => by simp [sizeOf, typeInfo, h2]) a b la ca lb cb hne ea eb xs.length ys.length (hsh ha) (hsh hb) (by cases ys with | nil => exact absurd rfl hys | cons _ _ => simp) ha.free ha.free
  have := run_callFunc_extern (P := P) hf hname hbd hn he #[.slice (some a) la ca, .slice (some b) lb cb] w
  rw [ho] at this
  simpa using this
theorem chunks {s : Nat} : ∀ (k : Nat) (l : List Value), l.length = k * s → ∃ R : List (List Value), R.length = k ∧ (∀ r ∈ R, r.length = s) ∧ R.flatten = l
  | 0, l, h => ⟨[], rfl, by simp, by rw [Nat.zero_mul] at h; rw [List.eq_nil_of_length_eq_zero h]; rfl⟩
  | k + 1, l, h => by
    have h2 : (l.drop s).length = k * s := by rw [List.length_drop, h, Nat.succ_mul]; omega
    obtain ⟨R, r1, r2, r3⟩ := chunks k (l.drop s) h2
    refine ⟨l.take s :: R, by rw [List.length_cons, r1], fun r hr => ?_, by rw [List.flatten_cons, r3, List.take_append_drop]⟩
    rcases List.mem_cons.1 hr with rfl | hr
    · rw [List.length_take, h, Nat.succ_mul]; omega
    · exact r2 r hr
theorem _root_.Go.XL.Ows.whole {base : Nat} {e : TypeId} {s : Nat} {v : Value} {rows : List (List Value)} (h : Ows base w e s v rows) :
    (v = .slice none 0 0 ∧ rows = []) ∨ ∃ g ex, v = .slice (some ⟨g, 0, none⟩) rows.length (rows.length + ex.length) ∧ base ≤ g ∧ Has w g (rows ++ ex).flatten e ∧ (∀ r ∈ ex, r.length = s) ∧ rows.length + ex.length ≤ maxLen := by
  rcases h.own.2 with ⟨rfl, h0⟩ | ⟨g, cap, cur, rfl, hbg, hgh, hnc, hcm, hcs, htake⟩
  · exact .inl ⟨rfl, List.eq_nil_of_length_eq_zero h0⟩
  · obtain ⟨R, r1, r2, r3⟩ := chunks (s := s) (cap - rows.length) (cur.toList.drop (rows.length * s)) (by rw [List.length_drop, Array.length_toList, hcs, Nat.sub_mul])
    have e1 : rows.length + R.length = cap := by omega
    refine .inr ⟨g, R, by rw [e1], hbg, ?_, r2, by omega⟩
    unfold Has
    rw [List.flatten_append, r3, ← htake, List.take_append_drop]
    simpa using hgh
end
theorem wrap_u64s {n : Nat} (h : n ≤ 1000) : IntKind.u64.wrap (n : Int) = n := by
  simp [IntKind.wrap, IntKind.bits, IntKind.signed]; omega
theorem and_lo32 {n : Nat} (h : n ≤ 1000) : Value.int .u64 (IntKind.u64.wrap ((BitVec.ofInt 64 (n : Int) &&& BitVec.ofInt 64 4294967295).toNat : Int)) = .int .u64 (n : Int) := by
  have h2 : (BitVec.ofInt 64 (n : Int) &&& BitVec.ofInt 64 4294967295).toNat = n := by
    rw [BitVec.toNat_and, BitVec.ofInt_natCast, BitVec.toNat_ofNat]
    show n % 2 ^ 64 &&& 2 ^ 32 - 1 = n
    rw [Nat.and_two_pow_sub_one_eq_mod]; omega
  rw [h2, wrap_u64s h]
theorem shr_lo32 {n : Nat} (h : n ≤ 1000) : Value.int .u64 ((n : Int).fdiv (2 ^ min ((32 : Int).toNat) IntKind.u64.bits)) = .int .u64 0 := by
  have : (n : Int).fdiv 4294967296 = 0 := by rw [Int.fdiv_eq_ediv_of_nonneg _ (by decide)]; omega
  exact congrArg (Value.int .u64) this
theorem rep_plain (n : Nat) {x : List Value} (h : x.all plainV = true) : (List.replicate n x).all (fun r => r.all plainV) = true := by
  rw [List.all_eq_true]; intro r hr; rw [(List.mem_replicate.1 hr).2]; exact h
theorem c_mul64 (n : Nat) (h : n ≤ 1000) (w : World) : FC Tryz.prog 245 [.int .u64 1, .int .u64 (n : Int)] w (Val (.tuple #[.int .u64 0, .int .u64 (n : Int)]) w) := by
 refine FC.intro Tryz.func245 rfl Tryz.ntmps245 rfl ?_
 have S := Sub.refl w
 refine RC.seq (RC.region rfl ?_);refine RL.asS rfl ?_;refine RL.asS rfl ?_;refine RL.nil (RC.back (RC.seq (RC.region rfl ?_)));refine RL.mvS rfl ?_;refine RL.eS (.as (v' := .int .u64 1) (.bin rfl rfl rfl) (by rfl)) ?_;refine RL.asS rfl ?_;refine RL.nil (RC.back (RC.seq (RC.region rfl ?_)));refine RL.mvS rfl ?_;refine RL.eS (.as (v' := .int .u64 0) (.shr rfl rfl (by decide)) (by rfl)) ?_;refine RL.asS rfl ?_;refine RL.nil (RC.back (RC.seq (RC.region rfl ?_)));refine RL.mvS rfl ?_;refine RL.eS (.as (v' := .int .u64 (n : Int)) (.bin rfl rfl rfl) (by exact and_lo32 (by omega))) ?_;refine RL.asS rfl ?_;refine RL.nil (RC.back (RC.seq (RC.region rfl ?_)));refine RL.mvS rfl ?_;refine RL.eS (.as (v' := .int .u64 0) (.shr rfl rfl (by decide)) (by exact shr_lo32 (by omega))) ?_;refine RL.asS rfl ?_;refine RL.nil (RC.back (RC.seq (RC.region rfl ?_)));refine RL.mvS rfl ?_;refine RL.mvS rfl ?_;refine RL.eS (.as (v' := .int .u64 (n : Int)) (.bin rfl rfl rfl) (by rw [Int.one_mul, wrap_u64s (by omega)])) ?_;refine RL.asS rfl ?_;refine RL.nil (RC.back (RC.seq (RC.region rfl ?_)));refine RL.mvS rfl ?_;refine RL.mvS rfl ?_;refine RL.eS (.as (v' := .int .u64 0) (.bin rfl rfl rfl) (by rw [Int.zero_mul]; rfl)) ?_;refine RL.mvS rfl ?_;refine RL.eS (.as (v' := .int .u64 0) (.shr rfl rfl (by decide)) (by exact shr_lo32 (by omega))) ?_;refine RL.eS (.as (v' := .int .u64 0) (.bin rfl rfl rfl) (by rfl)) ?_;refine RL.asS rfl ?_;refine RL.nil (RC.back (RC.seq (RC.region rfl ?_)));refine RL.mvS rfl ?_;refine RL.eS (.as (v' := .int .u64 0) (.bin rfl rfl rfl) (by rfl)) ?_;refine RL.asS rfl ?_;refine RL.nil (RC.back (RC.seq (RC.region rfl ?_)));refine RL.mvS rfl ?_;refine RL.eS (.as (v' := .int .u64 0) (.shr rfl rfl (by decide)) (by rfl)) ?_;refine RL.asS rfl ?_;refine RL.nil (RC.back (RC.seq (RC.region rfl ?_)));refine RL.mvS rfl ?_;refine RL.mvS rfl ?_;refine RL.mvS rfl ?_;refine RL.eS (.as (v' := .int .u64 0) (.bin rfl rfl rfl) (by rfl)) ?_;refine RL.eS (.as (v' := .int .u64 0) (.bin rfl rfl rfl) (by rfl)) ?_;refine RL.asS rfl ?_;refine RL.nil (RC.back (RC.seq (RC.region rfl ?_)));refine RL.mvS rfl ?_;refine RL.mvS rfl ?_;refine RL.eS (.as (v' := .int .u64 0) (.bin rfl rfl rfl) (by rfl)) ?_;refine RL.mvS rfl ?_;refine RL.eS (.as (v' := .int .u64 0) (.bin rfl rfl rfl) (by rfl)) ?_;refine RL.mvS rfl ?_;refine RL.eS (.as (v' := .int .u64 0) (.shr rfl rfl (by decide)) (by rfl)) ?_;refine RL.eS (.as (v' := .int .u64 0) (.bin rfl rfl rfl) (by rfl)) ?_;refine RL.asS rfl ?_;refine RL.nil (RC.back (RC.seq (RC.region rfl ?_)));refine RL.mvS rfl ?_;refine RL.mvS rfl ?_;refine RL.eS (.as (v' := .int .u64 (n : Int)) (.bin rfl rfl rfl) (by rw [Int.one_mul, wrap_u64s (by omega)])) ?_;refine RL.asS rfl ?_;refine RL.nil (RC.back ?_);refine RC.done (rs := [.tmp 4, .tmp 5]) (vs := [_, _]) rfl rfl ⟨rfl, rfl, trivial⟩ ?_
 exact ⟨rfl, S⟩
theorem c_mul (n : Nat) (h : n ≤ 1000) (w : World) : FC Tryz.prog 190 [.int .u64 1, .int .u64 (n : Int)] w (Val (.tuple #[.int .u64 0, .int .u64 (n : Int)]) w) := by
 refine FC.intro Tryz.func190 rfl Tryz.ntmps190 rfl ?_
 have S := Sub.refl w
 refine RC.seq (RC.region rfl ?_);refine RL.asS rfl ?_;refine RL.asS rfl ?_;refine RL.nil (RC.back (RC.seq ?_));refine RC.cond_f rfl ?_;refine RC.skip (RC.back (RC.seq (RC.region rfl ?_)));refine RL.mvS rfl ?_;refine RL.mvS rfl ?_;refine RL.call rfl ok245 (c_mul64 n h w) rfl rfl ?_;rintro _ w1 ⟨rfl, s2⟩;have S := S.trans s2;refine RL.mvS rfl ?_;refine RL.eS (.extract rfl rfl) ?_;refine RL.eS (.extract rfl rfl) ?_;refine RL.asS rfl ?_;refine RL.asS rfl ?_;refine RL.nil (RC.back (RC.seq (RC.region rfl ?_)));refine RL.mvS rfl ?_;refine RL.mvS rfl ?_;refine RL.asS rfl ?_;refine RL.asS rfl ?_;refine RL.nil (RC.back ?_);refine RC.done (rs := [.tmp 4, .tmp 5]) (vs := [_, _]) rfl rfl ⟨rfl, rfl, trivial⟩ ?_
 exact ⟨rfl, S⟩
theorem rep_rows {x z : List Value} {s k j : Nat} (hx : x.length = s) (hz : z.length = s) : ∀ r ∈ List.replicate k x ++ List.replicate j z, r.length = s := by
  intro r hr
  rcases List.mem_append.1 hr with h | h
  · rw [(List.mem_replicate.1 h).2, hx]
  · rw [(List.mem_replicate.1 h).2, hz]
theorem rep_rows1 {x : List Value} {s k : Nat} (hx : x.length = s) : ∀ r ∈ List.replicate k x, r.length = s := fun r h => by rw [(List.mem_replicate.1 h).2, hx]
theorem blit_rep {x z : List Value} {k j : Nat} : blit (List.replicate k x ++ List.replicate j z) k ((List.replicate k x).take (min k j)) = List.replicate (k + min k j) x ++ List.replicate (j - min k j) z := by
  unfold blit
  rw [List.take_replicate, List.length_replicate, List.take_left' (List.length_replicate), List.drop_append, List.length_replicate, List.drop_eq_nil_of_le (by simp), List.nil_append, List.drop_replicate, show min (min k j) k = min k j by omega, show k + min k j - k = min k j by omega, ← List.replicate_append_replicate]
theorem blit_rep1 {x z : List Value} {n : Nat} : blit (List.replicate n z) 0 ([x].take (min 1 n)) = List.replicate (min 1 n) x ++ List.replicate (n - min 1 n) z := by
  unfold blit
  cases n with
  | zero => rfl
  | succ n => rw [show min 1 (n + 1) = 1 by omega]; simp [List.replicate_succ]
theorem c_repI (n : Nat) (hn : 1 ≤ n ∧ n ≤ 512) (b : Nat) (w : World) (hb : Has w b ([.int .i64 (-1)] : List Value) 3) :
  FC Tryz.prog 243 [.slice (some ⟨b, 0, none⟩) 1 1, .int .i64 (n : Int)] w (fun v w' => Sub w w' ∧ ∃ b2, v = .slice (some ⟨b2, 0, none⟩) n n ∧ w.heap.size ≤ b2 ∧ Has w' b2 (List.replicate n ([.int .i64 (-1)] : List Value)).flatten 3) := by
 have hx : (([.int .i64 (-1)] : List Value) : List Value).length = 1 := rfl
 have hz : (([.int .i64 0] : List Value) : List Value).length = 1 := rfl
 refine FC.intro Tryz.func243 rfl Tryz.ntmps243 rfl ?_
 have S := Sub.refl w
 refine RC.seq (RC.region rfl ?_);refine RL.asS rfl ?_;refine RL.nil (RC.back (RC.seq (RC.seq (RC.region rfl ?_))));refine RL.mvS rfl ?_;refine RL.eS (.bin rfl rfl rfl) ?_;refine RL.nil (RC.back ?_);refine RC.cond_dec rfl (fun h1 => ?_) (fun h1 => ?_)
 ·
  exact absurd h1 (by omega)
 ·
  refine RC.skip (RC.back (RC.seq (RC.region rfl ?_)));refine RL.mvS rfl ?_;refine RL.eS (.len sl24 rfl) ?_;refine RL.eS (.conv i3 i190 rfl) ?_;refine RL.mvS rfl ?_;refine RL.eS (.as (v' := .int .u64 (n : Int)) (.conv i3 i190 rfl) (by rw [show IntKind.u64.wrap (n : Int) = n by simp [IntKind.wrap, IntKind.bits, IntKind.signed]; omega])) ?_;refine RL.call rfl ok190 (c_mul n (by omega) w) rfl rfl ?_;rintro _ w2 ⟨rfl, s3⟩;have S := S.trans s3;have hb := hb.sub s3;refine RL.mvS rfl ?_;refine RL.eS (.extract rfl rfl) ?_;refine RL.eS (.extract rfl rfl) ?_;refine RL.asS rfl ?_;refine RL.asS rfl ?_;refine RL.nil (RC.back (RC.seq (RC.seq (RC.region rfl ?_))));refine RL.mvS rfl ?_;refine RL.eS (.as (v' := .bool false) (.bin rfl rfl rfl) (congrArg Value.bool (decide_eq_false (by decide)))) ?_;refine RL.mvS rfl ?_;refine RL.mvS rfl ?_;refine RL.eS (.as (v' := .bool false) (.bin rfl rfl rfl) (congrArg Value.bool (decide_eq_false (by omega)))) ?_;refine RL.eS (.pick_f rfl rfl) ?_;refine RL.nil (RC.back ?_);refine RC.cond_f rfl ?_;refine RC.skip (RC.back (RC.seq (RC.region rfl ?_)));refine RL.mvS rfl ?_;refine RL.eS (.as (v' := .int .i64 (n : Int)) (.conv i190 i3 rfl) (by rw [wrap_i64 (by omega)])) ?_;refine RL.makeSlice sl24 ze3 rfl rfl rfl rfl (by omega) rfl rfl (fun b_30 w_30 e_30 z_30 hb_30 s_30 => ?_);have ge_30 := S.le e_30;have S := S.trans s_30;have hb := hb.sub s_30
  have hb_30 : Has w_30 b_30 (List.replicate n ([.int .i64 0] : List Value)).flatten 3 := (by have := hb_30; rw [Int.toNat_natCast] at this; exact this)
  refine RL.asS rfl ?_;refine RL.nil (RC.back (RC.seq (RC.region rfl ?_)));refine RL.mvS rfl ?_;refine RL.mvS rfl ?_;refine RL.copyB (o := 0) (k := 1) (m := n) (R := List.replicate n ([.int .i64 0] : List Value)) (l := [([.int .i64 (-1)] : List Value)]) sl24 rfl (by simp only [Nat.zero_mul]; rfl) rfl hb_30 (rep_rows1 hz) (by simp; omega) (Has.sl0 (rows := [([.int .i64 (-1)] : List Value)]) (by simpa using hb) (by simp)) rfl (by simp) (by rw [show min 1 n = 1 by omega]; rfl) rfl rfl (fun w4 z33 hb_30 a33 => ?_);have S := S.upd a33 ge_30
  rw [blit_rep1, show min 1 n = 1 by omega] at hb_30
  rw [show min 1 n = 1 by omega]
  refine RL.asS rfl ?_;refine RL.nil (RC.back (RC.seq (RC.block ?_)));refine RC.loop (α := Nat) (fun k => [(7, .slice (some ⟨b_30, 0, none⟩) n n), (8, .int .i64 (k : Int))]) (fun k w5 => (1 ≤ k ∧ k ≤ n) ∧ Has w5 b_30 (List.replicate k ([.int .i64 (-1)] : List Value) ++ List.replicate (n - k) ([.int .i64 0] : List Value)).flatten 3 ∧ Sub w w5) (fun k => n - k) 1 (keep_of (by repeat (first | exact trivial | refine And.intro rfl ?_))) (⟨⟨Nat.le_refl _, hn.1⟩, hb_30, S⟩) (fun k w5 hJ => ?_)
  obtain ⟨hk, hb_30, S⟩ := hJ
  refine RC.seq (RC.seq (RC.region rfl ?_));refine RL.mvS rfl ?_;refine RL.mvS rfl ?_;refine RL.eS (.len sl24 rfl) ?_;refine RL.eS (.bin rfl rfl rfl) ?_;refine RL.nil (RC.back ?_);refine RC.cond_dec rfl (fun h6 => ?_) (fun h6 => ?_)
  ·
   refine RC.skip (RC.back (RC.block ?_));refine RC.drawD (fun k => k = b_30) [7] w5.heap.size 10 rfl rfl mxo (fun w7 s8 => ?_)
   have hNN : ∀ k, ((k = b_30) ∨ w5.heap.size ≤ k) → w.heap.size ≤ k := fun k e => e.elim (fun e => e ▸ ge_30) (fun e => Nat.le_trans S.size e)
   have hN0 : ∀ k, w5.heap.size ≤ k → w.heap.size ≤ k := fun k e => Nat.le_trans S.size e
   have S := S.trans s8;have hb_30 := hb_30.sub s8;refine RD.tS 0 rfl (fun w' s' => .move rfl) ?_;refine RD.tS 1 rfl (fun w' s' => .move rfl) ?_;refine RD.tS 2 rfl (fun w' s' => .move rfl) ?_;refine RD.tS 3 rfl (fun w' s' => .as (v' := .slice (some ⟨b_30, k * 1, none⟩) (n - k) (n - k)) (.sliceLo sl24 rfl rfl (by omega)) (by rw [sl_at (by omega)]; rfl)) ?_;refine RD.tS 4 rfl (fun w' s' => .move rfl) ?_;refine RD.tS 5 rfl (fun w' s' => .move rfl) ?_;refine RD.tS 6 rfl (fun w' s' => .sliceHi sl24 rfl rfl (by omega)) ?_;refine RD.oneS 7 rfl ?_;refine RL.copyB (o := k) (k := k) (m := n - k) (R := List.replicate k ([.int .i64 (-1)] : List Value) ++ List.replicate (n - k) ([.int .i64 0] : List Value)) (l := List.replicate k ([.int .i64 (-1)] : List Value)) sl24 rfl rfl rfl hb_30 (rep_rows hx hz) (by simp; omega) (Has.sl (rows := List.replicate k ([.int .i64 (-1)] : List Value)) (extra := (List.replicate (n - k) ([.int .i64 0] : List Value)).flatten) (by rw [← List.flatten_append]; exact hb_30) (rep_rows1 hx)) (by simp) (rep_rows1 hx) (by rw [List.take_replicate]; exact rep_plain _ rfl) rfl rfl (fun w9 z45 hb_30 a45 => ?_);have S := S.upd a45 ge_30
   rw [blit_rep] at hb_30
   refine RD.backW rfl (a45.mono fun k _ e => .inl e) ?_;refine RD.tS 8 rfl (fun w' s' => .as (.bin rfl rfl rfl) (wi64 (y := ((k + min k (n - k) : Nat) : Int)) (by omega) (by omega))) ?_;refine RD.tS 9 rfl (fun w' s' => .assign rfl) ?_
   exact RD.done (by kernel_rfl) (fun a ka => ⟨k + min k (n - k), ⟨by omega, by rw [show n - (k + min k (n - k)) = n - k - min k (n - k) by omega]; exact hb_30, S⟩, by omega, ka.keep (keep_of (by repeat (first | exact trivial | refine And.intro rfl ?_)))⟩)
  ·
   obtain rfl : k = n := (by omega)
   refine RC.exit rfl (RC.back (RC.seq (RC.region rfl ?_)));refine RL.mvS rfl ?_;refine RL.asS rfl ?_;refine RL.nil (RC.back ?_);refine RC.d1 4 rfl rfl rfl ?_
   rw [Nat.sub_self, List.replicate_zero, List.append_nil] at hb_30
   exact ⟨S, b_30, rfl, ge_30, hb_30⟩
theorem c_repC (n : Nat) (hn : 1 ≤ n ∧ n ≤ 512) (b : Nat) (w : World) (hb : Has w b ([.int .u64 0, .int .i64 0, .int .i64 0, .bool true] : List Value) 97) :
  FC Tryz.prog 117 [.slice (some ⟨b, 0, none⟩) 1 1, .int .i64 (n : Int)] w (fun v w' => Sub w w' ∧ ∃ b2, v = .slice (some ⟨b2, 0, none⟩) n n ∧ w.heap.size ≤ b2 ∧ Has w' b2 (List.replicate n ([.int .u64 0, .int .i64 0, .int .i64 0, .bool true] : List Value)).flatten 97) := by
 have hx : (([.int .u64 0, .int .i64 0, .int .i64 0, .bool true] : List Value) : List Value).length = 4 := rfl
 have hz : (([.int .u64 0, .int .i64 0, .int .i64 0, .bool false] : List Value) : List Value).length = 4 := rfl
 refine FC.intro Tryz.func117 rfl Tryz.ntmps117 rfl ?_
 have S := Sub.refl w
 refine RC.seq (RC.region rfl ?_);refine RL.asS rfl ?_;refine RL.nil (RC.back (RC.seq (RC.seq (RC.region rfl ?_))));refine RL.mvS rfl ?_;refine RL.eS (.bin rfl rfl rfl) ?_;refine RL.nil (RC.back ?_);refine RC.cond_dec rfl (fun h1 => ?_) (fun h1 => ?_)
 ·
  exact absurd h1 (by omega)
 ·
  refine RC.skip (RC.back (RC.seq (RC.region rfl ?_)));refine RL.mvS rfl ?_;refine RL.eS (.len sl65 rfl) ?_;refine RL.eS (.conv i3 i190 rfl) ?_;refine RL.mvS rfl ?_;refine RL.eS (.as (v' := .int .u64 (n : Int)) (.conv i3 i190 rfl) (by rw [show IntKind.u64.wrap (n : Int) = n by simp [IntKind.wrap, IntKind.bits, IntKind.signed]; omega])) ?_;refine RL.call rfl ok190 (c_mul n (by omega) w) rfl rfl ?_;rintro _ w2 ⟨rfl, s3⟩;have S := S.trans s3;have hb := hb.sub s3;refine RL.mvS rfl ?_;refine RL.eS (.extract rfl rfl) ?_;refine RL.eS (.extract rfl rfl) ?_;refine RL.asS rfl ?_;refine RL.asS rfl ?_;refine RL.nil (RC.back (RC.seq (RC.seq (RC.region rfl ?_))));refine RL.mvS rfl ?_;refine RL.eS (.as (v' := .bool false) (.bin rfl rfl rfl) (congrArg Value.bool (decide_eq_false (by decide)))) ?_;refine RL.mvS rfl ?_;refine RL.mvS rfl ?_;refine RL.eS (.as (v' := .bool false) (.bin rfl rfl rfl) (congrArg Value.bool (decide_eq_false (by omega)))) ?_;refine RL.eS (.pick_f rfl rfl) ?_;refine RL.nil (RC.back ?_);refine RC.cond_f rfl ?_;refine RC.skip (RC.back (RC.seq (RC.region rfl ?_)));refine RL.mvS rfl ?_;refine RL.eS (.as (v' := .int .i64 (n : Int)) (.conv i190 i3 rfl) (by rw [wrap_i64 (by omega)])) ?_;refine RL.makeSlice sl65 ze97 rfl rfl rfl rfl (by omega) rfl rfl (fun b_30 w_30 e_30 z_30 hb_30 s_30 => ?_);have ge_30 := S.le e_30;have S := S.trans s_30;have hb := hb.sub s_30
  have hb_30 : Has w_30 b_30 (List.replicate n ([.int .u64 0, .int .i64 0, .int .i64 0, .bool false] : List Value)).flatten 97 := (by have := hb_30; rw [Int.toNat_natCast] at this; exact this)
  refine RL.asS rfl ?_;refine RL.nil (RC.back (RC.seq (RC.region rfl ?_)));refine RL.mvS rfl ?_;refine RL.mvS rfl ?_;refine RL.copyB (o := 0) (k := 1) (m := n) (R := List.replicate n ([.int .u64 0, .int .i64 0, .int .i64 0, .bool false] : List Value)) (l := [([.int .u64 0, .int .i64 0, .int .i64 0, .bool true] : List Value)]) sl65 rfl (by simp only [Nat.zero_mul]; rfl) rfl hb_30 (rep_rows1 hz) (by simp; omega) (Has.sl0 (rows := [([.int .u64 0, .int .i64 0, .int .i64 0, .bool true] : List Value)]) (by simpa using hb) (by simp)) rfl (by simp) (by rw [show min 1 n = 1 by omega]; rfl) rfl rfl (fun w4 z33 hb_30 a33 => ?_);have S := S.upd a33 ge_30
  rw [blit_rep1, show min 1 n = 1 by omega] at hb_30
  rw [show min 1 n = 1 by omega]
  refine RL.asS rfl ?_;refine RL.nil (RC.back (RC.seq (RC.block ?_)));refine RC.loop (α := Nat) (fun k => [(7, .slice (some ⟨b_30, 0, none⟩) n n), (8, .int .i64 (k : Int))]) (fun k w5 => (1 ≤ k ∧ k ≤ n) ∧ Has w5 b_30 (List.replicate k ([.int .u64 0, .int .i64 0, .int .i64 0, .bool true] : List Value) ++ List.replicate (n - k) ([.int .u64 0, .int .i64 0, .int .i64 0, .bool false] : List Value)).flatten 97 ∧ Sub w w5) (fun k => n - k) 1 (keep_of (by repeat (first | exact trivial | refine And.intro rfl ?_))) (⟨⟨Nat.le_refl _, hn.1⟩, hb_30, S⟩) (fun k w5 hJ => ?_)
  obtain ⟨hk, hb_30, S⟩ := hJ
  refine RC.seq (RC.seq (RC.region rfl ?_));refine RL.mvS rfl ?_;refine RL.mvS rfl ?_;refine RL.eS (.len sl65 rfl) ?_;refine RL.eS (.bin rfl rfl rfl) ?_;refine RL.nil (RC.back ?_);refine RC.cond_dec rfl (fun h6 => ?_) (fun h6 => ?_)
  ·
   refine RC.skip (RC.back (RC.block ?_));refine RC.drawD (fun k => k = b_30) [7] w5.heap.size 10 rfl rfl mxo (fun w7 s8 => ?_)
   have hNN : ∀ k, ((k = b_30) ∨ w5.heap.size ≤ k) → w.heap.size ≤ k := fun k e => e.elim (fun e => e ▸ ge_30) (fun e => Nat.le_trans S.size e)
   have hN0 : ∀ k, w5.heap.size ≤ k → w.heap.size ≤ k := fun k e => Nat.le_trans S.size e
   have S := S.trans s8;have hb_30 := hb_30.sub s8;refine RD.tS 0 rfl (fun w' s' => .move rfl) ?_;refine RD.tS 1 rfl (fun w' s' => .move rfl) ?_;refine RD.tS 2 rfl (fun w' s' => .move rfl) ?_;refine RD.tS 3 rfl (fun w' s' => .as (v' := .slice (some ⟨b_30, k * 4, none⟩) (n - k) (n - k)) (.sliceLo sl65 rfl rfl (by omega)) (by rw [sl_at (by omega)]; rfl)) ?_;refine RD.tS 4 rfl (fun w' s' => .move rfl) ?_;refine RD.tS 5 rfl (fun w' s' => .move rfl) ?_;refine RD.tS 6 rfl (fun w' s' => .sliceHi sl65 rfl rfl (by omega)) ?_;refine RD.oneS 7 rfl ?_;refine RL.copyB (o := k) (k := k) (m := n - k) (R := List.replicate k ([.int .u64 0, .int .i64 0, .int .i64 0, .bool true] : List Value) ++ List.replicate (n - k) ([.int .u64 0, .int .i64 0, .int .i64 0, .bool false] : List Value)) (l := List.replicate k ([.int .u64 0, .int .i64 0, .int .i64 0, .bool true] : List Value)) sl65 rfl rfl rfl hb_30 (rep_rows hx hz) (by simp; omega) (Has.sl (rows := List.replicate k ([.int .u64 0, .int .i64 0, .int .i64 0, .bool true] : List Value)) (extra := (List.replicate (n - k) ([.int .u64 0, .int .i64 0, .int .i64 0, .bool false] : List Value)).flatten) (by rw [← List.flatten_append]; exact hb_30) (rep_rows1 hx)) (by simp) (rep_rows1 hx) (by rw [List.take_replicate]; exact rep_plain _ rfl) rfl rfl (fun w9 z45 hb_30 a45 => ?_);have S := S.upd a45 ge_30
   rw [blit_rep] at hb_30
   refine RD.backW rfl (a45.mono fun k _ e => .inl e) ?_;refine RD.tS 8 rfl (fun w' s' => .as (.bin rfl rfl rfl) (wi64 (y := ((k + min k (n - k) : Nat) : Int)) (by omega) (by omega))) ?_;refine RD.tS 9 rfl (fun w' s' => .assign rfl) ?_
   exact RD.done (by kernel_rfl) (fun a ka => ⟨k + min k (n - k), ⟨by omega, by rw [show n - (k + min k (n - k)) = n - k - min k (n - k) by omega]; exact hb_30, S⟩, by omega, ka.keep (keep_of (by repeat (first | exact trivial | refine And.intro rfl ?_)))⟩)
  ·
   obtain rfl : k = n := (by omega)
   refine RC.exit rfl (RC.back (RC.seq (RC.region rfl ?_)));refine RL.mvS rfl ?_;refine RL.asS rfl ?_;refine RL.nil (RC.back ?_);refine RC.d1 4 rfl rfl rfl ?_
   rw [Nat.sub_self, List.replicate_zero, List.append_nil] at hb_30
   exact ⟨S, b_30, rfl, ge_30, hb_30⟩
def pk (a c : Int) : Value := .agg #[.int .i64 a, .int .i64 c]
theorem pk_inj {a b c d : Int} : pk a b = pk c d ↔ a = c ∧ b = d := by simp [pk]
def HasP (w : World) (b : Nat) (f : Int → Int → Option Value) : Prop :=
  ∃ es clock, w.heap[b]? = some (.map es clock) ∧ (∀ x ∈ es.toList, ∃ a c, x.key = pk a c) ∧ ∀ a c v, f a c = some v ↔ ∃ x ∈ es.toList, x.key = pk a c ∧ x.val = v
theorem HasP.lt {w b f} (h : HasP w b f) : b < w.heap.size := by
  obtain ⟨es, c, h, _⟩ := h
  rcases Nat.lt_or_ge b w.heap.size with g | g
  · exact g
  · rw [Array.getElem?_eq_none g] at h; cases h
theorem HasP.step {N : Nat → Prop} {w w' b f} (h : HasP w b f) (k : Agr N w w') (hn : ¬ N b) : HasP w' b f := by
  obtain ⟨es, c, h1, h2⟩ := id h
  exact ⟨es, c, (k.block b h.lt hn).trans h1, h2⟩
theorem HasP.sub {w w' b f} (h : HasP w b f) (k : Sub w w') : HasP w' b f := h.step (N := fun _ => False) k.agr id
structure PairT (P : Program) (kt : TypeId) (f1 f2 : Field) : Prop where
  hu : P.underlying kt = some (.struct #[f1, f2])
  n1 : (f1.name != "_") = true
  n2 : (f2.name != "_") = true
  h1 : P.underlying f1.type = some (.int .i64)
  h2 : P.underlying f2.type = some (.int .i64)
  o1 : f1.offset = 0
  o2 : f2.offset = 1
  hk : flatK P 6 kt = some [some .i64, some .i64]
  hs : shapeOf P kt = some (true, 2)
section
variable {P : Program} {kt : TypeId} {f1 f2 : Field} {w : World}
theorem run_checkPair (h : PairT P kt f1 f2) (em : Bool) (n : Nat) (x y : Int) : (Instr.checkKey em (n + 2) kt (pk x y)).run P w = .ok () w := by
  have n1 : f1.name ≠ "_" := by simpa using h.n1
  have n2 : f2.name ≠ "_" := by simpa using h.n2
  have p1 : P.plainKey f1.type = true := by simp [Program.plainKey, h.h1]
  have p2 : P.plainKey f2.type = true := by simp [Program.plainKey, h.h2]
  have e1 := run_part_plain (P := P) w p1 (xs := #[.int .i64 x, .int .i64 y]) (off := f1.offset) (v := .int .i64 x) (by rw [h.o1]; rfl)
  have e2 := run_part_plain (P := P) w p2 (xs := #[.int .i64 x, .int .i64 y]) (off := f2.offset) (v := .int .i64 y) (by rw [h.o2]; rfl)
  have c1 : (Instr.checkKey em (n + 1) f1.type (.int .i64 x)).run P w = .ok () w := by simp [Instr.checkKey, run_underlying h.h1]
  have c2 : (Instr.checkKey em (n + 1) f2.type (.int .i64 y)).run P w = .ok () w := by simp [Instr.checkKey, run_underlying h.h2]
  unfold pk
  rw [Instr.checkKey]
  simp [run_underlying h.hu, n1, n2, e1, e2, c1, c2]
theorem run_equalPair (h : PairT P kt f1 f2) (a b c d : Int) : (Op.equal kt (pk a b) (pk c d)).run P w = .ok (decide (a = c ∧ b = d)) w := by
  have := run_equal_flat (P := P) (w := w) (xs := [.int .i64 a, .int .i64 b]) (ys := [.int .i64 c, .int .i64 d]) h.hk h.hs rfl rfl rfl
  refine Eq.trans this ?_
  congr 1
  rw [Bool.eq_iff_iff, decide_eq_true_iff]
  simp [eqL, eq1]
theorem run_findPair (h : PairT P kt f1 f2) (a b : Int) : ∀ (es : List MapEntry) (i : Nat), (∀ x ∈ es, ∃ a c, x.key = pk a c) →
    (∃ o, (Instr.findAsking kt (pk a b) es i).run P w = .ok o w ∧ ((o = none ∧ ∀ x ∈ es, ¬ x.key = pk a b) ∨ ∃ j x, o = some (j, x.val) ∧ x ∈ es ∧ x.key = pk a b))
  | [], i, _ => ⟨none, by simp [Instr.findAsking], .inl ⟨rfl, by simp⟩⟩
  | x :: es, i, hk => by
    obtain ⟨c, d, hx⟩ := hk x (by simp)
    have he := run_equalPair (w := w) h a b c d
    by_cases q : a = c ∧ b = d
    · refine ⟨some (i, x.val), ?_, .inr ⟨i, x, rfl, by simp, by rw [hx, q.1, q.2]⟩⟩
      rw [Instr.findAsking, hx]
      rw [run_bind, he, decide_eq_true q]
      rfl
    · obtain ⟨o, h1, h2⟩ := run_findPair h a b es (i + 1) (fun y hy => hk y (by simp [hy]))
      refine ⟨o, ?_, ?_⟩
      · rw [Instr.findAsking, hx]
        rw [run_bind, he, decide_eq_false q]
        exact h1
      · rcases h2 with ⟨h2, h3⟩ | ⟨j, y, h2, h3, h4⟩
        · refine .inl ⟨h2, fun y hy => ?_⟩
          rcases List.mem_cons.1 hy with rfl | hy
          · rw [hx]; intro e; exact q ⟨(pk_inj.1 e).1.symm, (pk_inj.1 e).2.symm⟩
          · exact h3 y hy
        · exact .inr ⟨j, y, h2, by simp [h3], h4⟩
theorem run_findKeyPair (h : PairT P kt f1 f2) (a b : Int) (es : List MapEntry) (hk : ∀ x ∈ es, ∃ a c, x.key = pk a c) :
    (∃ o, (Instr.findKey kt (pk a b) es).run P w = .ok o w ∧ ((o = none ∧ ∀ x ∈ es, ¬ x.key = pk a b) ∨ ∃ j x, o = some (j, x.val) ∧ x ∈ es ∧ x.key = pk a b)) := by
  obtain ⟨o, h1, h2⟩ := run_findPair (w := w) h a b es 0 hk
  have e : (Instr.findKey kt (pk a b) es).run P w = (Instr.findAsking kt (pk a b) es).run P w := run_findKey_eq w (by rw [h.hu]) (pk a b) es
  exact ⟨o, e.trans h1, h2⟩
end
section
variable {P : Program} {n : Cx} {F : List (Nat × Value)} {w : World} {p : Post} {ops : Array Oper} {rest : List Oper} {d : Option Tmp} {t : TypeId} {pos : String} {af : Array Edge} {g : Option (Nat × Bool)} {kt et : TypeId} {f1 f2 : Field}
theorem _root_.Go.XL.EvOp.lookupP {ty m x z b a c} {f : Int → Int → Option Value} (hm : P.underlying ty = some (.map kt et)) (hp : PairT P kt f1 f2) (hz : zeroOf P et = some z) (hx : XL.ev F m = some (.map (some b))) (hk : XL.ev F x = some (pk a c)) (h : HasP w b f) :
    EvOp P F (.lookup ty m x true) w (.tuple #[(f a c).getD z, .bool (f a c).isSome]) := fun _ _ _ _ _ ρ hρ w' s => by
  obtain ⟨es, cl, h1, h3, h4⟩ := h.sub s
  simp only [execOp, hρ m _ hx, hρ x _ hk]
  refine run_val _ ?_
  have hck := run_checkPair (P := P) (w := w') hp es.isEmpty 9998 a c
  obtain ⟨o, g1, g2⟩ := run_findKeyPair (P := P) (w := w') hp a c es.toList h3
  have hf : f a c = o.map (·.2) := by
    rcases g2 with ⟨g2, g3⟩ | ⟨j, y, g2, g3, g4⟩
    · rw [g2]
      cases hq : f a c with
      | none => rfl
      | some v => obtain ⟨y, hy, hyk, _⟩ := (h4 a c v).1 hq; exact absurd hyk (g3 y hy)
    · rw [g2]; exact (h4 a c y.val).2 ⟨y, g3, g4, rfl⟩
  rw [hf]
  cases o with
  | none => simp [Instr.lookup, Go.run_underlying hm, Go.MapKept.run_getObj_map h1, hck, g1, Result.andThen, run_zeroValue' hz]
  | some q => simp [Instr.lookup, Go.run_underlying hm, Go.MapKept.run_getObj_map h1, hck, g1, Result.andThen]
theorem RL.makeMapP {ty} (hg : gsat ops F g = some true) (hd : inB d n = true)
    (h : ∀ b w', b = w.heap.size → w'.heap.size = b + 1 → HasP w' b (fun _ _ => none) → Sub w w' → RL P n ops rest (upd F d (.map (some b))) w' p) : RL P n ops (⟨d, .makeMap ty none, t, pos, af, g⟩ :: rest) F w p := by
  refine RL.on hg hd (w' := w.alloc (.map #[] 0)) (fun ρ hρ => ?_) (h _ _ rfl (by simp) ⟨#[], 0, heap_alloc_new w _, by simp, fun a c v => by simp⟩ ⟨rfl, rfl, rfl, by simp, fun k hk => heap_alloc_old' w _ hk⟩)
  simp only [execOp]
  refine run_val _ ?_
  simp [Instr.makeMap, Result.andThen]
theorem RL.insertP {ty m x y v b a c} {f : Int → Int → Option Value} (hm : P.underlying ty = some (.map kt et)) (hp : PairT P kt f1 f2) (hx : XL.ev F m = some (.map (some b))) (hk : XL.ev F x = some (pk a c)) (hy : XL.ev F y = some v) (hb : HasP w b f) (hf : f a c = none) (hg : gsat ops F g = some true)
    (h : ∀ w', w'.heap.size = w.heap.size → HasP w' b (fun i k => if i = a ∧ k = c then some v else f i k) → Agr (· = b) w w' → RL P n ops rest F w' p) : RL P n ops (⟨none, .insert ty m x y, t, pos, af, g⟩ :: rest) F w p := by
  obtain ⟨es, cl, h1, h3, h4⟩ := hb
  have hck := run_checkPair (P := P) (w := w) hp false 9998 a c
  have agr : ∀ o, Agr (· = b) w { w with heap := w.heap.setIfInBounds b o } := fun o => ⟨rfl, rfl, rfl, by simp, fun k _ hk => (Go.MapKept.heap_set h1).2 k hk⟩
  obtain ⟨o, g1, g2⟩ := run_findKeyPair (P := P) (w := w) hp a c es.toList h3
  have ho : o = none := by
    rcases g2 with ⟨g2, _⟩ | ⟨j, y, _, g3, g4⟩
    · exact g2
    · have := (h4 a c y.val).2 ⟨y, g3, g4, rfl⟩; rw [hf] at this; cases this
  subst ho
  have g3 : ∀ x ∈ es.toList, ¬ x.key = pk a c := by
    intro y hy e
    have := (h4 a c y.val).2 ⟨y, hy, e, rfl⟩; rw [hf] at this; cases this
  refine RL.on_skip hg (w' := { w with heap := w.heap.setIfInBounds b (.map (es.push ⟨pk a c, v, cl⟩) (cl + 1)) }) (fun ρ hρ => ?_) (h _ (by simp) ⟨_, _, (Go.MapKept.heap_set h1).1, ?_, ?_⟩ (agr _))
  · simp only [execOp, hρ m _ hx, hρ x _ hk, hρ y _ hy]
    simp [Instr.mapUpdate, Go.run_underlying hm, Go.MapKept.run_getObj_map h1, hck, g1, Go.MapKept.run_setObj_map _ h1, Result.andThen]
  · intro z hz
    simp only [Array.toList_push, List.mem_append, List.mem_singleton] at hz
    rcases hz with hz | rfl
    · exact h3 z hz
    · exact ⟨a, c, rfl⟩
  · intro i k u
    simp only [Array.toList_push, List.mem_append, List.mem_singleton]
    by_cases hi : i = a ∧ k = c
    · obtain ⟨rfl, rfl⟩ := hi
      simp only [and_self, if_true, Option.some.injEq]
      constructor
      · rintro rfl; exact ⟨_, .inr rfl, rfl, rfl⟩
      · rintro ⟨z, hz | rfl, hz2, hz3⟩
        · exact absurd hz2 (g3 z hz)
        · exact hz3
    · rw [if_neg hi, h4]
      constructor
      · rintro ⟨z, hz, hz2⟩; exact ⟨z, .inl hz, hz2⟩
      · rintro ⟨z, hz | rfl, hz2, hz3⟩
        · exact ⟨z, hz, hz2, hz3⟩
        · exact absurd ⟨(pk_inj.1 hz2).1.symm, (pk_inj.1 hz2).2.symm⟩ hi
end
section
variable {P : Program} {n : Cx} {F : List (Nat × Value)} {w : World} {p : Post} {l : List Oper} {N : Nat → Prop} {Wr : List Nat} {B : Nat}
structure LE where
  i : Nat
  a : Int
  c : Int
  v : Value
def litF (T : List LE) (L : Array Bool) (a c : Int) : Option Value := (T.find? fun e => decide (e.a = a ∧ e.c = c) && L.getD e.i true).map (·.v)
theorem getD_true {L : Array Bool} {i j : Nat} (h : L.getD i true = false) : (L.setIfInBounds i true).getD j true = if j = i then true else L.getD j true := by
  have hi : i < L.size := by
    rcases Nat.lt_or_ge i L.size with g | g
    · exact g
    · simp [Array.getD, Nat.not_lt.2 g] at h
  simp only [Array.getD_eq_getD_getElem?, Array.getElem?_setIfInBounds]
  by_cases e : j = i
  · subst e; simp [hi]
  · simp [e, Ne.symm e]
theorem getD_truef {L : Array Bool} {i j : Nat} (h : L.getD j false = true) : (L.setIfInBounds i true).getD j false = true := by
  simp only [Array.getD_eq_getD_getElem?, Array.getElem?_setIfInBounds] at h ⊢
  by_cases e : i = j
  · subst e
    cases hq : L[i]? with
    | none => rw [hq] at h; simp at h
    | some v =>
      have hi : i < L.size := (Array.getElem?_eq_some_iff.1 hq).1
      simp [hi]
  · simp [e]; simpa using h
theorem nodup_inj {α β : Type} {f : α → β} : ∀ {l : List α}, (l.map f).Nodup → ∀ {x y : α}, x ∈ l → y ∈ l → f x = f y → x = y
  | [], _, _, _, h, _, _ => by cases h
  | z :: l, hn, x, y, hx, hy, e => by
    have hn := List.nodup_cons.1 (show (f z :: l.map f).Nodup from hn)
    rcases List.mem_cons.1 hx with rfl | hx2 <;> rcases List.mem_cons.1 hy with rfl | hy2
    · rfl
    · exact absurd (e ▸ List.mem_map_of_mem hy2) hn.1
    · exact absurd (e.symm ▸ List.mem_map_of_mem hx2) hn.1
    · exact nodup_inj hn.2 hx2 hy2 e
theorem find_congr {α : Type} {f g : α → Bool} : ∀ {l : List α}, (∀ x ∈ l, f x = g x) → l.find? f = l.find? g
  | [], _ => rfl
  | z :: l, h => by rw [List.find?_cons, List.find?_cons, h z (by simp), find_congr fun x hx => h x (by simp [hx])]
theorem lit_uniq {T : List LE} (hk : (T.map fun e => (e.a, e.c)).Nodup) {e e' : LE} (h : e ∈ T) (h' : e' ∈ T) (ha : e'.a = e.a) (hc : e'.c = e.c) : e' = e := nodup_inj hk h' h (by simp only [ha, hc])
theorem litF_new {T : List LE} (hk : (T.map fun e => (e.a, e.c)).Nodup) (hi : (T.map (·.i)).Nodup) {L : Array Bool} {e : LE} (he : e ∈ T) (hL : L.getD e.i true = false) :
    litF T L e.a e.c = none ∧ litF T (L.setIfInBounds e.i true) = fun a c => if a = e.a ∧ c = e.c then some e.v else litF T L a c := by
  constructor
  · unfold litF
    rw [List.find?_eq_none.2]
    · rfl
    intro x hx
    by_cases q : x.a = e.a ∧ x.c = e.c
    · rw [lit_uniq hk he hx q.1 q.2, hL]; simp
    · rw [decide_eq_false q]; simp
  · funext a c
    unfold litF
    by_cases q : a = e.a ∧ c = e.c
    · rw [if_pos q]
      obtain ⟨rfl, rfl⟩ := q
      cases hf : T.find? fun x => decide (x.a = e.a ∧ x.c = e.c) && (L.setIfInBounds e.i true).getD x.i true with
      | none =>
        have := List.find?_eq_none.1 hf e he
        rw [getD_true hL] at this
        simp at this
      | some y =>
        have h1 := List.find?_some hf
        have h2 := List.mem_of_find?_eq_some hf
        rw [Bool.and_eq_true, decide_eq_true_iff] at h1
        rw [lit_uniq hk he h2 h1.1.1 h1.1.2]; rfl
    · rw [if_neg q]
      congr 1
      refine find_congr (fun x hx => ?_)
      by_cases q2 : x.a = a ∧ x.c = c
      · have hne : x.i ≠ e.i := fun e2 => q (by rw [← nodup_inj hi hx he e2]; exact ⟨q2.1.symm, q2.2.symm⟩)
        rw [getD_true hL, if_neg hne]
      · rw [decide_eq_false q2]; simp
theorem cnt_set {T : List LE} (hi : (T.map (·.i)).Nodup) {L : Array Bool} {e : LE} (he : e ∈ T) (hL : L.getD e.i true = false) : (T.filter fun x => !(L.setIfInBounds e.i true).getD x.i true).length + 1 = (T.filter fun x => !L.getD x.i true).length := by
  induction T with
  | nil => cases he
  | cons x T ih =>
    have hn := List.nodup_cons.1 (show (x.i :: T.map (·.i)).Nodup from hi)
    by_cases q : x.i = e.i
    · have hno : ∀ y ∈ T, y.i ≠ e.i := fun y hy e2 => hn.1 (by rw [q, ← e2]; exact List.mem_map_of_mem hy)
      have h1 : (T.filter fun x => !(L.setIfInBounds e.i true).getD x.i true) = T.filter fun x => !L.getD x.i true := List.filter_congr fun y hy => by rw [getD_true hL, if_neg (hno y hy)]
      rw [List.filter_cons, List.filter_cons, getD_true hL, if_pos q, q, hL, h1]
      simp
    · have hm : e ∈ T := (List.mem_cons.1 he).resolve_left (fun h => q (by rw [h]))
      have := ih hn.2 hm
      rw [List.filter_cons, List.filter_cons, getD_true hL, if_neg q]
      cases L.getD x.i true <;> simp only [Bool.not_true, Bool.not_false, if_true, if_false, Bool.false_eq_true, List.length_cons] <;> omega
def blkB (l : List Oper) (L0 : Array Bool) (is : List Nat) : Bool := (List.range L0.size).all fun i => L0.getD i true || is.contains i || match l[i]? with
  | none => true
  | some o => (o.after.any fun g => Region.binds .any g && !(L0.getD g.on false) && !(is.contains g.on)) || is.all fun j => o.after.any fun g => Region.binds .any g && g.on == j
theorem blk_of {L0 : Array Bool} {T : List LE} (h : blkB l L0 (T.map (·.i)) = true) {L : Array Bool} (hs : L.size = L0.size) (hL : ∀ j, (∀ e ∈ T, e.i ≠ j) → L[j]? = L0[j]?) (hu : ∃ e ∈ T, L.getD e.i true = false) {i : Nat} (hr : i ∈ Region.ready .any l.toArray L) : ∃ e ∈ T, e.i = i := by
  obtain ⟨hun, o, ho, hall⟩ := mem_ready.1 hr
  refine Classical.byContradiction fun hno => ?_
  have hno : ∀ e ∈ T, e.i ≠ i := fun e he e2 => hno ⟨e, he, e2⟩
  have hi : i < L.size := by
    rcases Nat.lt_or_ge i L.size with g | g
    · exact g
    · simp [Array.getD, Nat.not_lt.2 g] at hun
  have h1 := List.all_eq_true.1 h i (by rw [List.mem_range, ← hs]; exact hi)
  have hc : (T.map (·.i)).contains i = false := by
    rw [Bool.eq_false_iff]; intro e
    obtain ⟨e', he', e2⟩ := List.mem_map.1 (List.contains_iff_mem.1 e)
    exact hno e' he' e2
  have hu0 : L0.getD i true = false := by
    rw [Array.getD_eq_getD_getElem?] at hun ⊢
    rw [← hL i hno]; exact hun
  rw [hc, hu0, show l[i]? = some o by simpa using ho] at h1
  simp only [Bool.false_or, Bool.or_eq_true] at h1
  rcases h1 with h1 | h1
  · obtain ⟨g, hg, hg2⟩ := Array.any_eq_true'.1 h1
    rw [Bool.and_eq_true, Bool.and_eq_true] at hg2
    have h3 := hall g hg hg2.1.1
    have hng : ∀ e ∈ T, e.i ≠ g.on := by
      intro e he e2
      have : (T.map (·.i)).contains g.on = true := List.contains_iff_mem.2 (List.mem_map.2 ⟨e, he, e2⟩)
      rw [this] at hg2; simp at hg2
    rw [Array.getD_eq_getD_getElem?, hL g.on hng, ← Array.getD_eq_getD_getElem?] at h3
    rw [h3] at hg2; simp at hg2
  · obtain ⟨e, he, heu⟩ := hu
    have h3 := List.all_eq_true.1 h1 e.i (List.mem_map_of_mem he)
    obtain ⟨g, hg, hg2⟩ := Array.any_eq_true'.1 h3
    rw [Bool.and_eq_true, beq_iff_eq] at hg2
    have h4 := hall g hg hg2.1
    rw [hg2.2] at h4
    have : L.getD e.i true = true := by
      rw [Array.getD_eq_getD_getElem?] at h4 ⊢
      cases hq : L[e.i]? with
      | none => rfl
      | some v => rw [hq] at h4; exact h4
    rw [this] at heu; cases heu
def litL (L0 : Array Bool) (T : List LE) : Array Bool := (T.map (·.i)).foldl (fun L i => L.setIfInBounds i true) L0
theorem litL_size (L0 : Array Bool) : ∀ T : List LE, (litL L0 T).size = L0.size := by
  intro T
  unfold litL
  generalize T.map (·.i) = is
  induction is generalizing L0 with
  | nil => rfl
  | cons i is ih => rw [List.foldl_cons, ih]; simp
theorem litL_get (L0 : Array Bool) (T : List LE) (j : Nat) (hj : j < L0.size) : (litL L0 T)[j]? = if (∃ e ∈ T, e.i = j) then some true else L0[j]? := by
  have key : ∀ (is : List Nat) (L0 : Array Bool), j < L0.size → (is.foldl (fun L i => L.setIfInBounds i true) L0)[j]? = if j ∈ is then some true else L0[j]? := by
    intro is
    induction is with
    | nil => intro L0 _; simp
    | cons i is ih =>
      intro L0 hj
      rw [List.foldl_cons, ih _ (by simpa using hj), Array.getElem?_setIfInBounds]
      by_cases q : j ∈ is
      · simp [q]
      · by_cases q2 : i = j
        · subst q2; simp [hj]
        · simp [q, q2, Ne.symm q2]
  unfold litL
  rw [key _ _ hj]
  congr 1
  simp [List.mem_map]
theorem RD.lits {ty kt et : TypeId} {f1 f2 : Field} {b : Nat} (T : List LE) (L0 : Array Bool) (m0 : Nat) (hR : n.round = none) (hm : P.underlying ty = some (.map kt et)) (hp : PairT P kt f1 f2)
    (hl : ∀ e ∈ T, ∃ m x y t pos af, l[e.i]? = some ⟨none, .insert ty m x y, t, pos, af, none⟩ ∧ XL.ev F m = some (.map (some b)) ∧ XL.ev F x = some (pk e.a e.c) ∧ XL.ev F y = some e.v ∧ (af.all fun g => !Region.binds .any g || L0.getD g.on false) = true)
    (hk : (T.map fun e => (e.a, e.c)).Nodup) (hi : (T.map (·.i)).Nodup) (hblk : blkB l L0 (T.map (·.i)) = true) (hu2 : (T.all fun e => !(L0.getD e.i true)) = true) (hne : T ≠ []) (hb : HasP w b fun _ _ => none) (hB : B ≤ b)
    (h : ∀ w', HasP w' b (fun a c => (T.find? fun e => decide (e.a = a ∧ e.c = c)).map (·.v)) → Agr (· = b) w w' → RD P n l N Wr B (litL L0 T) m0 F w' p) : RD P n l N Wr B L0 (T.length + m0) F w p := by
  have hu2 : ∀ e ∈ T, L0.getD e.i true = false := fun e he => by have := List.all_eq_true.1 hu2 e he; simpa using this
  have key : ∀ (f : Nat) (L : Array Bool) (w' : World), L.size = L0.size → (∀ j, (∀ e ∈ T, e.i ≠ j) → L[j]? = L0[j]?) → (∀ i, L0.getD i false = true → L.getD i false = true) → (T.filter fun x => !L.getD x.i true).length = f → HasP w' b (litF T L) → Agr (· = b) w w' → RD P n l N Wr B L (f + m0) F w' p := by
    intro f
    induction f with
    | zero =>
      intro L w' h0 h1 h2 h3 h4 h5
      have hall : ∀ e ∈ T, L.getD e.i true = true := by
        intro e he
        have := List.length_eq_zero_iff.1 h3
        rw [List.filter_eq_nil_iff] at this
        simpa using this e he
      have e1 : litF T L = fun a c => (T.find? fun e => decide (e.a = a ∧ e.c = c)).map (·.v) := by
        funext a c
        unfold litF
        congr 1
        exact find_congr fun x hx => by rw [hall x hx, Bool.and_true]
      have e2 : L = litL L0 T := by
        refine Array.ext_getElem? (fun j => ?_)
        rcases Nat.lt_or_ge j L0.size with g | g
        · rw [litL_get L0 T j g]
          by_cases q : ∃ e ∈ T, e.i = j
          · rw [if_pos q]
            obtain ⟨e, he, rfl⟩ := q
            have := hall e he
            rw [Array.getD_eq_getD_getElem?, Array.getElem?_eq_getElem (by rw [h0]; exact g)] at this
            rw [Array.getElem?_eq_getElem (by rw [h0]; exact g)]
            exact congrArg some this
          · rw [if_neg q]; exact h1 j (fun e he e2 => q ⟨e, he, e2⟩)
        · rw [Array.getElem?_eq_none (by rw [h0]; exact g), Array.getElem?_eq_none (by rw [litL_size]; exact g)]
      rw [Nat.zero_add, e2]
      exact h w' (e1 ▸ h4) h5
    | succ f ih =>
      intro L w' h0 h1 h2 h3 h4 h5
      obtain ⟨e0, he0⟩ : ∃ e, e ∈ T.filter fun x => !L.getD x.i true := List.exists_mem_of_length_pos (by omega)
      have he1 := List.mem_filter.1 he0
      have hun0 : L.getD e0.i true = false := by simpa using he1.2
      have hrdy : e0.i ∈ Region.ready .any l.toArray L := by
        obtain ⟨m, x, y, t, pos, af, g1, _, _, _, g5⟩ := hl e0 he1.1
        refine mem_ready.2 ⟨hun0, _, by simpa using g1, fun g hg hbd => h2 _ ?_⟩
        have := Array.all_eq_true'.1 g5 g hg
        rw [hbd] at this; simpa using this
      rw [show f + 1 + m0 = (f + m0) + 1 by omega]
      intro a k
      refine ⟨fun e => absurd (e ▸ hrdy) (by simp), fun i hi2 => ?_⟩
      obtain ⟨e, he, rfl⟩ := blk_of hblk h0 h1 ⟨e0, he1.1, hun0⟩ hi2
      obtain ⟨hun, _⟩ := mem_ready.1 hi2
      obtain ⟨m, x, y, t, pos, af, g1, g2, g3, g4, g5⟩ := hl e he
      obtain ⟨n1, n2⟩ := litF_new hk hi he hun
      refine RDs.cons (is := []) g1 ?_ RDs.nil hR e.i (by simp) a k
      refine RL.insertP hm hp g2 g3 g4 h4 n1 rfl (fun w2 hs hb2 ha => RL.nil (fun a k => ⟨ha.mono fun k _ e => .inr (by rw [e]; exact hB), ih (L.setIfInBounds e.i true) w2 (by simpa using h0) ?_ (fun j hj => getD_truef (h2 j hj)) (by have := cnt_set hi he hun; omega) (by rw [n2]; exact hb2) (h5.trans ha) a k⟩))
      intro j hj
      rw [Array.getElem?_setIfInBounds, if_neg (hj e he)]
      exact h1 j hj
  refine key T.length L0 w rfl (fun _ _ => rfl) (fun _ h => h) ?_ ?_ (Agr.refl _ _)
  · rw [List.filter_eq_self.2 (fun x hx => by rw [hu2 x hx]; rfl)]
  · have : litF T L0 = fun _ _ => none := by
      funext a c
      unfold litF
      rw [List.find?_eq_none.2]
      · rfl
      intro x hx; rw [hu2 x hx]; simp
    rw [this]; exact hb
end
def u64 (x : BitVec 64) : Value := .int .u64 (x.toNat : Int)
theorem u64_shr (x : BitVec 64) (k : Nat) (hk : k ≤ 64) : Value.int .u64 ((x.toNat : Int).fdiv (2 ^ min ((k : Int).toNat) IntKind.u64.bits)) = u64 (x >>> k) := by
  unfold u64
  congr 1
  rw [show min ((k : Int).toNat) IntKind.u64.bits = k by simp [IntKind.bits]; omega]
  have h2 : ((2 : Int) ^ k) = ((2 ^ k : Nat) : Int) := by rw [Int.natCast_pow]; rfl
  rw [BitVec.toNat_ushiftRight, Nat.shiftRight_eq_div_pow, Int.natCast_ediv, h2, Int.fdiv_eq_ediv_of_nonneg _ (Int.natCast_nonneg _)]
theorem ofInt_toNat (z : BitVec 64) : BitVec.ofInt 64 (z.toNat : Int) = z := by rw [BitVec.ofInt_natCast]; simp
theorem toNat_lt (z : BitVec 64) : z.toNat < 18446744073709551616 := z.isLt
theorem u64_xor (x y : BitVec 64) : Value.int .u64 (IntKind.u64.wrap ((BitVec.ofInt 64 (x.toNat : Int) ^^^ BitVec.ofInt 64 (y.toNat : Int)).toNat : Int)) = u64 (x ^^^ y) := by
  unfold u64
  rw [ofInt_toNat x, ofInt_toNat y, wrap_u64 ⟨Int.natCast_nonneg _, by have := toNat_lt (x ^^^ y); omega⟩]
theorem u64_of (x : Int) : Value.int .u64 (IntKind.u64.wrap x) = u64 (BitVec.ofInt 64 x) := by
  unfold u64
  congr 1
  rw [IntKind.wrap_u64, BitVec.toNat_ofInt]
  omega
theorem u64_low20 (x : BitVec 64) : Value.int .u64 (IntKind.u64.wrap ((BitVec.ofInt 64 (x.toNat : Int) &&& BitVec.ofInt 64 1048575).toNat : Int)) = .int .u64 ((x.toNat % 1048576 : Nat) : Int) := by
  have h2 : (x &&& BitVec.ofInt 64 1048575).toNat = x.toNat % 1048576 := by
    show (x &&& 1048575#64).toNat = _
    rw [BitVec.toNat_and]
    exact Nat.and_two_pow_sub_one_eq_mod x.toNat 20
  have h3 : x.toNat % 1048576 < 1048576 := Nat.mod_lt _ (by decide)
  rw [ofInt_toNat x, h2, wrap_u64 ⟨Int.natCast_nonneg _, by omega⟩]
theorem u64_mul (x : BitVec 64) (c : Nat) : Value.int .u64 (IntKind.u64.wrap ((x.toNat : Int) * (c : Int))) = u64 (x * BitVec.ofNat 64 c) := by
  rw [u64_of]
  congr 1
  rw [← Int.natCast_mul, BitVec.ofInt_natCast]
  apply BitVec.eq_of_toNat_eq
  simp [BitVec.toNat_mul]
theorem u64_add (x : BitVec 64) (c : Nat) : Value.int .u64 (IntKind.u64.wrap ((x.toNat : Int) + (c : Int))) = u64 (x + BitVec.ofNat 64 c) := by
  rw [u64_of]
  congr 1
  rw [← Int.natCast_add, BitVec.ofInt_natCast]
  apply BitVec.eq_of_toNat_eq
  simp [BitVec.toNat_add]

def mixOf (x : BitVec 64) : BitVec 64 :=
  let a := (x ^^^ (x >>> 30)) * 13787848793156543929#64
  let b := (a ^^^ (a >>> 27)) * 10723151780598845931#64
  (b ^^^ (b >>> 31)) * 1#64

set_option maxRecDepth 4000 in
theorem c_mixOf (x : BitVec 64) (w : World) : FC Tryz.prog 276 [u64 x] w (Val (u64 (mixOf x)) w) := by
 refine FC.intro Tryz.func276 rfl Tryz.ntmps276 rfl ?_
 have S := Sub.refl w
 refine RC.seq (RC.region rfl ?_);refine RL.asS rfl ?_;refine RL.nil (RC.back (RC.seq (RC.seq (RC.region rfl ?_))));refine RL.eS (.as (v' := .agg #[.int .i64 30, .int .u64 13787848793156543929]) (.buildS ze360 pl360 rfl rfl) (by rfl)) ?_;refine RL.eS (.as (v' := .agg #[.int .i64 27, .int .u64 10723151780598845931]) (.buildS ze360 pl360 rfl rfl) (by rfl)) ?_;refine RL.eS (.as (v' := .agg #[.int .i64 31, .int .u64 1]) (.buildS ze360 pl360 rfl rfl) (by rfl)) ?_;refine RL.eS (.as (v' := .agg #[.int .i64 30, .int .u64 13787848793156543929, .int .i64 27, .int .u64 10723151780598845931, .int .i64 31, .int .u64 1]) (.buildA ze361 ar361 rfl rfl) (by rfl)) ?_;refine RL.mvS rfl ?_;refine RL.nil (RC.back (RC.block ?_));refine RC.unroll 5 ?_;refine RC.seq (RC.region rfl ?_);refine RL.eS (.bin rfl rfl rfl) ?_;refine RL.nil (RC.back (RC.seq ?_));refine RC.cond_t rfl ?_;refine RC.skip (RC.back (RC.seq (RC.block (RC.seq (RC.region rfl ?_)))));refine RL.eS (.as (v' := .agg #[.int .i64 30, .int .u64 13787848793156543929]) (.indexN ar361 sh360 rfl rfl (by decide)) (by rfl)) ?_;refine RL.alloc ze360 rfl rfl (fun b_4 w_4 e_4 z_4 hb_4 s_4 => ?_);have ge_4 := S.le e_4;have S := S.trans s_4;refine RL.stS sh360 rfl rfl rfl hb_4 (fun w1 z1 hb_4 a1 => ?_);have S := S.upd a1 ge_4;refine RL.nil (RC.back ?_);refine RC.draw rfl mxo (by kernel_rfl) ?_;refine RQ.ev (.move rfl) rfl rfl ?_;refine RQ.ev (.move rfl) rfl rfl ?_;refine RQ.ev (.field0 fo360_0 rfl) rfl rfl ?_;refine RQ.ev (.load1 sh3 rfl (hb_4.cell rfl)) rfl rfl ?_;refine RQ.ev (.as (v' := _) (.shr rfl rfl (by decide)) (by exact u64_shr _ 30 (by decide))) rfl rfl ?_;refine RQ.ev (.as (v' := _) (.bin rfl rfl rfl) (by exact u64_xor _ _)) rfl rfl ?_;refine RQ.ev (.field0 fo360_1 rfl) rfl rfl ?_;refine RQ.ev (.load1 sh30 rfl (hb_4.cell rfl)) rfl rfl ?_;refine RQ.ev (.as (v' := _) (.bin rfl rfl rfl) (by exact u64_mul _ 13787848793156543929)) rfl rfl ?_;refine RQ.ev (.assign rfl) rfl rfl ?_;refine RQ.nil (fun w2 s3 => RC.back ?_);have S := S.trans s3;refine RC.region rfl ?_;refine RL.eS (.bin rfl rfl rfl) ?_;refine RL.mvS rfl ?_;refine RL.nil (RC.again (RC.seq (RC.region rfl ?_)));refine RL.eS (.bin rfl rfl rfl) ?_;refine RL.nil (RC.back (RC.seq ?_));refine RC.cond_t rfl ?_;refine RC.skip (RC.back (RC.seq (RC.block (RC.seq (RC.region rfl ?_)))));refine RL.eS (.as (v' := .agg #[.int .i64 27, .int .u64 10723151780598845931]) (.indexN ar361 sh360 rfl rfl (by decide)) (by rfl)) ?_;refine RL.alloc ze360 rfl rfl (fun b_4_2 w_4_2 e_4_2 z_4_2 hb_4_2 s_4_2 => ?_);have ge_4_2 := S.le e_4_2;have S := S.trans s_4_2;refine RL.stS sh360 rfl rfl rfl hb_4_2 (fun w4 z4 hb_4_2 a4 => ?_);have S := S.upd a4 ge_4_2;refine RL.nil (RC.back ?_);refine RC.draw rfl mxo (by kernel_rfl) ?_;refine RQ.ev (.move rfl) rfl rfl ?_;refine RQ.ev (.move rfl) rfl rfl ?_;refine RQ.ev (.field0 fo360_0 rfl) rfl rfl ?_;refine RQ.ev (.load1 sh3 rfl (hb_4_2.cell rfl)) rfl rfl ?_;refine RQ.ev (.as (v' := _) (.shr rfl rfl (by decide)) (by exact u64_shr _ 27 (by decide))) rfl rfl ?_;refine RQ.ev (.as (v' := _) (.bin rfl rfl rfl) (by exact u64_xor _ _)) rfl rfl ?_;refine RQ.ev (.field0 fo360_1 rfl) rfl rfl ?_;refine RQ.ev (.load1 sh30 rfl (hb_4_2.cell rfl)) rfl rfl ?_;refine RQ.ev (.as (v' := _) (.bin rfl rfl rfl) (by exact u64_mul _ 10723151780598845931)) rfl rfl ?_;refine RQ.ev (.assign rfl) rfl rfl ?_;refine RQ.nil (fun w5 s6 => RC.back ?_);have S := S.trans s6;refine RC.region rfl ?_;refine RL.eS (.bin rfl rfl rfl) ?_;refine RL.mvS rfl ?_;refine RL.nil (RC.again (RC.seq (RC.region rfl ?_)));refine RL.eS (.bin rfl rfl rfl) ?_;refine RL.nil (RC.back (RC.seq ?_));refine RC.cond_t rfl ?_;refine RC.skip (RC.back (RC.seq (RC.block (RC.seq (RC.region rfl ?_)))));refine RL.eS (.as (v' := .agg #[.int .i64 31, .int .u64 1]) (.indexN ar361 sh360 rfl rfl (by decide)) (by rfl)) ?_;refine RL.alloc ze360 rfl rfl (fun b_4_3 w_4_3 e_4_3 z_4_3 hb_4_3 s_4_3 => ?_);have ge_4_3 := S.le e_4_3;have S := S.trans s_4_3;refine RL.stS sh360 rfl rfl rfl hb_4_3 (fun w7 z7 hb_4_3 a7 => ?_)
 have S := S.upd a7 ge_4_3;refine RL.nil (RC.back ?_);refine RC.draw rfl mxo (by kernel_rfl) ?_;refine RQ.ev (.move rfl) rfl rfl ?_;refine RQ.ev (.move rfl) rfl rfl ?_;refine RQ.ev (.field0 fo360_0 rfl) rfl rfl ?_;refine RQ.ev (.load1 sh3 rfl (hb_4_3.cell rfl)) rfl rfl ?_;refine RQ.ev (.as (v' := _) (.shr rfl rfl (by decide)) (by exact u64_shr _ 31 (by decide))) rfl rfl ?_;refine RQ.ev (.as (v' := _) (.bin rfl rfl rfl) (by exact u64_xor _ _)) rfl rfl ?_;refine RQ.ev (.field0 fo360_1 rfl) rfl rfl ?_;refine RQ.ev (.load1 sh30 rfl (hb_4_3.cell rfl)) rfl rfl ?_;refine RQ.ev (.as (v' := _) (.bin rfl rfl rfl) (by exact u64_mul _ 1)) rfl rfl ?_;refine RQ.ev (.assign rfl) rfl rfl ?_;refine RQ.nil (fun w8 s9 => RC.back ?_);have S := S.trans s9;refine RC.region rfl ?_;refine RL.eS (.bin rfl rfl rfl) ?_;refine RL.mvS rfl ?_;refine RL.nil (RC.again (RC.seq (RC.region rfl ?_)));refine RL.eS (.bin rfl rfl rfl) ?_;refine RL.nil (RC.back (RC.seq ?_));refine RC.cond_f rfl ?_;refine RC.exit rfl (RC.back (RC.seq (RC.region rfl ?_)));refine RL.mvS rfl ?_;refine RL.asS rfl ?_;refine RL.nil (RC.back ?_);refine RC.d1 2 rfl rfl rfl ?_
 exact ⟨rfl, S⟩

def rankOf (k : Int) : BitVec 64 := mixOf (BitVec.ofInt 64 k + 7#64)
def hashOf (k : Int) : Nat := (rankOf k).toNat % 1048576
theorem hashOf_lt (k : Int) : hashOf k < 1048576 := Nat.mod_lt _ (by decide)
def beforeK (a b : Int) : Bool := decide ((rankOf a).toNat < (rankOf b).toNat ∨ (rankOf a).toNat = (rankOf b).toNat ∧ a < b)

theorem c_rank (k : Int) (w : World) : FC Tryz.prog 240 [.int .i64 k] w (Val (u64 (rankOf k)) w) := by
 refine FC.intro Tryz.func240 rfl Tryz.ntmps240 rfl ?_
 have S := Sub.refl w
 refine RC.seq (RC.region rfl ?_);refine RL.asS rfl ?_;refine RL.nil (RC.back (RC.seq (RC.region rfl ?_)));refine RL.mvS rfl ?_;refine RL.eS (.as (v' := _) (.conv i2 i30 rfl) (by exact u64_of _)) ?_;refine RL.eS (.as (v' := _) (.bin rfl rfl rfl) (by exact u64_add _ 7)) ?_;refine RL.call rfl ok276 (c_mixOf _ w) rfl rfl ?_;rintro _ w1 ⟨rfl, s2⟩;have S := S.trans s2;refine RL.asS rfl ?_;refine RL.nil (RC.back ?_);refine RC.d1 2 rfl rfl rfl ?_
 exact ⟨rfl, S⟩
theorem c_hash (k : Int) (w : World) : FC Tryz.prog 183 [.int .i64 k] w (Val (.int .i64 (hashOf k)) w) := by
 refine FC.intro Tryz.func183 rfl Tryz.ntmps183 rfl ?_
 have S := Sub.refl w
 have hlt := hashOf_lt k
 refine RC.seq (RC.region rfl ?_);refine RL.asS rfl ?_;refine RL.nil (RC.back (RC.seq (RC.region rfl ?_)));refine RL.mvS rfl ?_;refine RL.call rfl ok240 (c_rank _ w) rfl rfl ?_;rintro _ w1 ⟨rfl, s2⟩;have S := S.trans s2;refine RL.eS (.as (v' := .int .u64 (hashOf k : Int)) (.bin rfl rfl rfl) (by exact u64_low20 _)) ?_;refine RL.eS (.as (.conv i30 i3 rfl) (wi64 (y := (hashOf k : Int)) (by rfl) (by omega))) ?_;refine RL.asS rfl ?_;refine RL.nil (RC.back ?_);refine RC.d1 2 rfl rfl rfl ?_
 exact ⟨rfl, S⟩
theorem c_before (a b : Int) (w : World) : FC Tryz.prog 195 [.int .i64 a, .int .i64 b] w (Val (.bool (beforeK a b)) w) := by
  refine FC.intro Tryz.func195 rfl Tryz.ntmps195 rfl ?_
  have S := Sub.refl w
  refine RC.seq (RC.region rfl ?_);refine RL.asS rfl ?_;refine RL.nil (RC.back (RC.seq (RC.region rfl ?_)));refine RL.mvS rfl ?_;refine RL.call rfl ok240 (c_rank _ w) rfl rfl ?_;rintro _ w1 ⟨rfl, s2⟩;have S := S.trans s2;refine RL.mvS rfl ?_;refine RL.call rfl ok240 (c_rank _ w1) rfl rfl ?_;rintro _ w3 ⟨rfl, s4⟩;have S := S.trans s4;refine RL.asS rfl ?_;refine RL.asS rfl ?_;refine RL.nil (RC.back (RC.seq (RC.region rfl ?_)));refine RL.mvS rfl ?_;refine RL.mvS rfl ?_;refine RL.eS (.bin rfl rfl rfl) ?_;refine RL.mvS rfl ?_;refine RL.split 14 rfl (fun h5 => ?_) (fun h5 => ?_)
  ·
    refine RL.offs 8 rfl ?_;refine RL.eS (.pick_t rfl rfl) ?_;refine RL.asS rfl ?_;refine RL.nil (RC.back ?_);refine RC.d1 4 rfl rfl rfl ?_
    exact ⟨by rw [beforeK, decide_eq_true (.inl (by omega))]; rfl, S⟩
  ·
    refine RL.mvS rfl ?_;refine RL.mvS rfl ?_;refine RL.eS (.bin rfl rfl rfl) ?_;refine RL.mvS rfl ?_;refine RL.split 18 rfl (fun h6 => ?_) (fun h6 => ?_)
    ·
      refine RL.mvS rfl ?_;refine RL.mvS rfl ?_;refine RL.eS (.bin rfl rfl rfl) ?_;refine RL.eS (.pick_t rfl rfl) ?_;refine RL.eS (.pick_f rfl rfl) ?_;refine RL.asS rfl ?_;refine RL.nil (RC.back ?_);refine RC.d1 4 rfl rfl rfl ?_
      refine ⟨?_, S⟩
      show Value.bool _ = _
      congr 1
      rw [beforeK, decide_eq_decide]
      constructor
      · exact fun h => .inr ⟨by omega, h⟩
      · exact fun h => h.elim (fun h => absurd h (by omega)) (·.2)
    ·
      refine RL.offs 3 rfl ?_;refine RL.eS (.pick_f rfl rfl) ?_;refine RL.eS (.pick_f rfl rfl) ?_;refine RL.asS rfl ?_;refine RL.nil (RC.back ?_);refine RC.d1 4 rfl rfl rfl ?_
      refine ⟨?_, S⟩
      show Value.bool _ = _
      congr 1
      exact (decide_eq_false (by omega)).symm
theorem befK_irr (a : Int) : beforeK a a = false := decide_eq_false (by omega)
theorem befK_trans {a b c : Int} (h1 : beforeK a b = true) (h2 : beforeK b c = true) : beforeK a c = true := by
  unfold beforeK at *
  rw [decide_eq_true_iff] at *
  omega
theorem befK_total {a b : Int} (h : ¬ a = b) : beforeK a b = true ∨ beforeK b a = true := by
  unfold beforeK
  rw [decide_eq_true_iff, decide_eq_true_iff]
  omega

structure It where
  k : Int
  v : Int
  deriving DecidableEq
def It.cells (x : It) : List Value := [.int .i64 x.k, .int .i64 x.v]
def It.val (x : It) : Value := .agg x.cells.toArray
def It.ok (x : It) : Prop := I64 x.k ∧ I64 x.v
def it0 : It := ⟨0, 0⟩
def Srt (l : List It) : Prop := l.Pairwise (fun x y => x.k < y.k)
theorem Srt.split {L R : List It} {it : It} (h : Srt (L ++ it :: R)) : Srt L ∧ Srt R ∧ (∀ y ∈ L, y.k < it.k) ∧ (∀ y ∈ R, it.k < y.k) := by
  unfold Srt at *
  rw [List.pairwise_append, List.pairwise_cons] at h
  exact ⟨h.1, h.2.1.2, fun y hy => h.2.2 y hy it (by simp), h.2.1.1⟩
theorem Srt.join {L R : List It} {it : It} (h1 : Srt L) (h2 : Srt R) (h3 : ∀ y ∈ L, y.k < it.k) (h4 : ∀ y ∈ R, it.k < y.k) : Srt (L ++ it :: R) := by
  unfold Srt at *
  rw [List.pairwise_append, List.pairwise_cons]
  refine ⟨h1, ⟨h4, h2⟩, fun x hx y hy => ?_⟩
  rcases List.mem_cons.1 hy with e | hy
  · rw [e]; exact h3 x hx
  · have := h3 x hx; have := h4 y hy; omega

def kAt (l : List It) (i : Nat) : Int := (l.getD i it0).k
def topAt (l : List It) : Nat → Int
  | 0 => -1
  | i + 1 => if topAt l i < 0 ∨ beforeK (kAt l i) (kAt l (topAt l i).toNat) = true then i else topAt l i
def topL (l : List It) : Int := topAt l l.length
def tNode (g k v s a b : Int) : Node := ⟨1, g, k, v, s, a, b, 0, 0, 0, 0, 0, 0, 0, 0, 0⟩
inductive IsT (A : Ar) : Int → List It → Prop
  | nil : IsT A 0 []
  | node {r g a b : Int} {it : It} {L R : List It} : getA A r = some (tNode g it.k it.v ((L.length : Int) + R.length + 1) a b) → IsT A a L → IsT A b R → (∀ y ∈ L ++ R, beforeK it.k y.k = true) → Srt (L ++ it :: R) → IsT A r (L ++ it :: R)
theorem getA_0 (A : Ar) : getA A 0 = none := getA_neg (.inl (by decide))
theorem IsT.srt {A : Ar} {r : Int} {l : List It} (h : IsT A r l) : Srt l := by
  cases h with
  | nil => exact List.Pairwise.nil
  | node _ _ _ _ h => exact h
theorem IsT.zero {A : Ar} {l : List It} (h : IsT A 0 l) : l = [] := by
  cases h with
  | nil => rfl
  | node h1 => rw [getA_0] at h1; cases h1
theorem IsT.ne {A : Ar} {r : Int} {l : List It} (h : IsT A r l) (hr : ¬ r = 0) : ∃ g a b it L R, l = L ++ it :: R ∧ getA A r = some (tNode g it.k it.v ((L.length : Int) + R.length + 1) a b) ∧ IsT A a L ∧ IsT A b R ∧ (∀ y ∈ L ++ R, beforeK it.k y.k = true) ∧ Srt (L ++ it :: R) := by
  cases h with
  | nil => exact absurd rfl hr
  | node h1 h2 h3 h4 h5 => exact ⟨_, _, _, _, _, _, rfl, h1, h2, h3, h4, h5⟩
theorem IsT.size {A : Ar} {r : Int} {l : List It} (h : IsT A r l) : (getA A r = none → l.length = 0) ∧ ∀ x, getA A r = some x → x.s = l.length := by
  cases h with
  | nil => exact ⟨fun _ => rfl, fun x h => (by rw [getA_0] at h; cases h)⟩
  | node h1 => exact ⟨fun h => (by rw [h1] at h; cases h), fun x h => (by rw [h1] at h; cases h; simp [tNode]; omega)⟩

def rowF (A : Ar) : Nat → Int → Int → List It
  | 0, _, _ => []
  | k + 1, r, most => match getA A r with
    | none => []
    | some x => if most ≤ 0 then [] else rowF A k x.k0 (most - 1) ++ ⟨x.n, x.v⟩ :: rowF A k x.k1 (most - ((rowF A k x.k0 (most - 1)).length + 1))
theorem rowF_no {A : Ar} {k : Nat} {r most : Int} (h : getA A r = none ∨ most ≤ 0) : rowF A (k + 1) r most = [] := by
  rw [rowF]
  split
  · rfl
  · rename_i x hx
    rw [if_pos (h.resolve_left (by rw [hx]; intro e; cases e))]
theorem rowF_yes {A : Ar} {k : Nat} {r most : Int} {x : Node} (h : getA A r = some x) (hm : ¬ most ≤ 0) : rowF A (k + 1) r most = rowF A k x.k0 (most - 1) ++ ⟨x.n, x.v⟩ :: rowF A k x.k1 (most - ((rowF A k x.k0 (most - 1)).length + 1)) := by
  rw [rowF, h]; exact if_neg hm
theorem rowF_isT {A : Ar} {r : Int} {l : List It} (h : IsT A r l) : ∀ (k : Nat) (most : Int), (l.length : Int) ≤ most → most < k → rowF A k r most = l := by
  induction h with
  | nil => intro k most h1 h2; cases k with
    | zero => rfl
    | succ k => exact rowF_no (.inl (getA_0 A))
  | @node r g a b it L R h1 h2 h3 h4 h5 ih1 ih2 =>
    intro k most hl hk
    simp only [List.length_append, List.length_cons] at hl
    cases k with
    | zero => omega
    | succ k =>
      rw [rowF_yes h1 (by omega)]
      have e1 := ih1 k (most - 1) (by omega) (by omega)
      simp only [tNode]
      rw [e1, ih2 k (most - ((L.length : Int) + 1)) (by omega) (by omega)]
theorem IsT.unique {A : Ar} {r : Int} {l m : List It} (h : IsT A r l) (h2 : IsT A r m) : l = m := by
  have h1 := rowF_isT h ((l.length + m.length) + 1) ((l.length + m.length : Nat) : Int) (by omega) (by omega)
  rw [rowF_isT h2 ((l.length + m.length) + 1) ((l.length + m.length : Nat) : Int) (by omega) (by omega)] at h1
  exact h1.symm

structure Bnd where
  low : Int
  high : Int
  hasLow : Bool
  hasHigh : Bool
  above : Int
  hasAbove : Bool
def Bnd.cells (b : Bnd) : List Value := [.int .i64 b.low, .int .i64 b.high, .bool b.hasLow, .bool b.hasHigh, .int .i64 b.above, .bool b.hasAbove]
def bnd0 : Bnd := ⟨0, 0, false, false, 0, false⟩
def Bnd.bad (b : Bnd) (n : Int) : Prop := b.hasLow = true ∧ n ≤ b.low ∨ b.hasHigh = true ∧ b.high ≤ n ∨ b.hasAbove = true ∧ beforeK b.above n = false
instance (b : Bnd) (n : Int) : Decidable (b.bad n) := inferInstanceAs (Decidable (_ ∨ _))
def Bnd.below (b : Bnd) (n : Int) : Bnd := { b with above := n, hasAbove := true }
def Bnd.lo (b : Bnd) (n : Int) : Bnd := { b with above := n, hasAbove := true, high := n, hasHigh := true }
def Bnd.hi (b : Bnd) (n : Int) : Bnd := { b with above := n, hasAbove := true, low := n, hasLow := true }
def tBare (x : Node) : Node := tNode x.gen x.n x.v x.s x.k0 x.k1
def mayF (A : Ar) : Nat → Int → Bnd → Int → Int
  | 0, _, _, _ => -1
  | k + 1, r, b, left => if r = 0 then 0 else match getA A r with
    | none => -1
    | some x => if left = 0 ∨ ¬ x.kind = 1 ∨ b.bad x.n then -1 else
      if mayF A k x.k0 (b.lo x.n) (left - 1) < 0 ∨ ¬ tBare x = x then -1 else
      if mayF A k x.k1 (b.hi x.n) (left - 1 - mayF A k x.k0 (b.lo x.n) (left - 1)) < 0 ∨ ¬ mayF A k x.k0 (b.lo x.n) (left - 1) + mayF A k x.k1 (b.hi x.n) (left - 1 - mayF A k x.k0 (b.lo x.n) (left - 1)) + 1 = x.s then -1 else
      mayF A k x.k0 (b.lo x.n) (left - 1) + mayF A k x.k1 (b.hi x.n) (left - 1 - mayF A k x.k0 (b.lo x.n) (left - 1)) + 1
section
variable {A : Ar} {k : Nat} {r left p q : Int} {b : Bnd} {x : Node}
theorem mayF_0 : mayF A (k + 1) 0 b left = 0 := by rw [mayF]; exact if_pos rfl
theorem mayF_none (hr : ¬ r = 0) (h : getA A r = none) : mayF A (k + 1) r b left = -1 := by rw [mayF, if_neg hr, h]
theorem mayF_bad (hr : ¬ r = 0) (h : getA A r = some x) (hb : left = 0 ∨ ¬ x.kind = 1 ∨ b.bad x.n) : mayF A (k + 1) r b left = -1 := by rw [mayF, if_neg hr, h]; exact if_pos hb
theorem mayF_left (hr : ¬ r = 0) (h : getA A r = some x) (hb : ¬ (left = 0 ∨ ¬ x.kind = 1 ∨ b.bad x.n)) (hp : mayF A k x.k0 (b.lo x.n) (left - 1) < 0 ∨ ¬ tBare x = x) : mayF A (k + 1) r b left = -1 := by
  rw [mayF, if_neg hr, h]; simp only []; rw [if_neg hb, if_pos hp]
theorem mayF_right (hr : ¬ r = 0) (h : getA A r = some x) (hb : ¬ (left = 0 ∨ ¬ x.kind = 1 ∨ b.bad x.n)) (ep : mayF A k x.k0 (b.lo x.n) (left - 1) = p) (hp : ¬ (p < 0 ∨ ¬ tBare x = x)) (eq : mayF A k x.k1 (b.hi x.n) (left - 1 - p) = q) (hq : q < 0 ∨ ¬ p + q + 1 = x.s) : mayF A (k + 1) r b left = -1 := by
  rw [mayF, if_neg hr, h]; simp only []; rw [if_neg hb, ep, eq, if_neg hp, if_pos hq]
theorem mayF_yes (hr : ¬ r = 0) (h : getA A r = some x) (hb : ¬ (left = 0 ∨ ¬ x.kind = 1 ∨ b.bad x.n)) (ep : mayF A k x.k0 (b.lo x.n) (left - 1) = p) (hp : ¬ (p < 0 ∨ ¬ tBare x = x)) (eq : mayF A k x.k1 (b.hi x.n) (left - 1 - p) = q) (hq : ¬ (q < 0 ∨ ¬ p + q + 1 = x.s)) : mayF A (k + 1) r b left = p + q + 1 := by
  rw [mayF, if_neg hr, h]; simp only []; rw [if_neg hb, ep, eq, if_neg hp, if_neg hq]
end
theorem mayF_le (A : Ar) : ∀ (k : Nat) (r : Int) (b : Bnd) (left : Int), 0 ≤ left → mayF A k r b left ≤ left ∧ -1 ≤ mayF A k r b left
  | 0, _, _, _, h => by rw [mayF]; omega
  | k + 1, r, b, left, h => by
    by_cases hr : r = 0
    · rw [hr, mayF_0]; omega
    cases hg : getA A r with
    | none => rw [mayF_none hr hg]; omega
    | some x =>
      by_cases hb : left = 0 ∨ ¬ x.kind = 1 ∨ b.bad x.n
      · rw [mayF_bad hr hg hb]; omega
      have hl : 0 ≤ left - 1 := by have : ¬ left = 0 := fun e => hb (.inl e); omega
      have h1 := mayF_le A k x.k0 (b.lo x.n) (left - 1) hl
      by_cases hp : mayF A k x.k0 (b.lo x.n) (left - 1) < 0 ∨ ¬ tBare x = x
      · rw [mayF_left hr hg hb hp]; omega
      have h2 := mayF_le A k x.k1 (b.hi x.n) (left - 1 - mayF A k x.k0 (b.lo x.n) (left - 1)) (by omega)
      by_cases hq : mayF A k x.k1 (b.hi x.n) (left - 1 - mayF A k x.k0 (b.lo x.n) (left - 1)) < 0 ∨ ¬ mayF A k x.k0 (b.lo x.n) (left - 1) + mayF A k x.k1 (b.hi x.n) (left - 1 - mayF A k x.k0 (b.lo x.n) (left - 1)) + 1 = x.s
      · rw [mayF_right hr hg hb rfl hp rfl hq]; omega
      · rw [mayF_yes hr hg hb rfl hp rfl hq]
        have hp0 : ¬ mayF A k x.k0 (b.lo x.n) (left - 1) < 0 := fun e => hp (.inl e)
        have hq0 : ¬ mayF A k x.k1 (b.hi x.n) (left - 1 - mayF A k x.k0 (b.lo x.n) (left - 1)) < 0 := fun e => hq (.inl e)
        omega
def Bnd.holds (b : Bnd) (n : Int) : Prop := (b.hasLow = true → b.low < n) ∧ (b.hasHigh = true → n < b.high) ∧ (b.hasAbove = true → beforeK b.above n = true)
theorem holds_not {b : Bnd} {n : Int} : b.holds n ↔ ¬ b.bad n := by
  unfold Bnd.holds Bnd.bad
  constructor
  · rintro ⟨h1, h2, h3⟩ (⟨e1, e2⟩ | ⟨e1, e2⟩ | ⟨e1, e2⟩)
    · have := h1 e1; omega
    · have := h2 e1; omega
    · rw [h3 e1] at e2; cases e2
  · intro h
    refine ⟨fun e => ?_, fun e => ?_, fun e => ?_⟩
    · exact Int.not_le.1 fun h2 => h (.inl ⟨e, h2⟩)
    · exact Int.not_le.1 fun h2 => h (.inr (.inl ⟨e, h2⟩))
    · cases h2 : beforeK b.above n with
      | true => rfl
      | false => exact absurd (.inr (.inr ⟨e, h2⟩)) h
theorem may_sound (A : Ar) : ∀ (k : Nat) (r : Int) (b : Bnd) (left : Int), 0 ≤ left → left < k → 0 ≤ mayF A k r b left → ∃ l, IsT A r l ∧ (l.length : Int) = mayF A k r b left ∧ ∀ y ∈ l, b.holds y.k
  | 0, _, _, _, _, h, _ => absurd h (by omega)
  | k + 1, r, b, left, h0, hk, hm => by
    by_cases hr : r = 0
    · rw [hr, mayF_0]; exact ⟨[], .nil, rfl, by simp⟩
    cases hg : getA A r with
    | none => rw [mayF_none hr hg] at hm; omega
    | some x =>
      by_cases hb : left = 0 ∨ ¬ x.kind = 1 ∨ b.bad x.n
      · rw [mayF_bad hr hg hb] at hm; omega
      have hl : 0 ≤ left - 1 := by have : ¬ left = 0 := fun e => hb (.inl e); omega
      by_cases hp : mayF A k x.k0 (b.lo x.n) (left - 1) < 0 ∨ ¬ tBare x = x
      · rw [mayF_left hr hg hb hp] at hm; omega
      have h1 := mayF_le A k x.k0 (b.lo x.n) (left - 1) hl
      by_cases hq : mayF A k x.k1 (b.hi x.n) (left - 1 - mayF A k x.k0 (b.lo x.n) (left - 1)) < 0 ∨ ¬ mayF A k x.k0 (b.lo x.n) (left - 1) + mayF A k x.k1 (b.hi x.n) (left - 1 - mayF A k x.k0 (b.lo x.n) (left - 1)) + 1 = x.s
      · rw [mayF_right hr hg hb rfl hp rfl hq] at hm; omega
      rw [mayF_yes hr hg hb rfl hp rfl hq]
      have hp0 : ¬ mayF A k x.k0 (b.lo x.n) (left - 1) < 0 := fun e => hp (.inl e)
      have hq0 : ¬ mayF A k x.k1 (b.hi x.n) (left - 1 - mayF A k x.k0 (b.lo x.n) (left - 1)) < 0 := fun e => hq (.inl e)
      obtain ⟨L, hL, eL, bL⟩ := may_sound A k x.k0 (b.lo x.n) (left - 1) hl (by omega) (by omega)
      obtain ⟨R, hR, eR, bR⟩ := may_sound A k x.k1 (b.hi x.n) (left - 1 - mayF A k x.k0 (b.lo x.n) (left - 1)) (by omega) (by omega) (by omega)
      have hbx : b.holds x.n := holds_not.2 fun e => hb (.inr (.inr e))
      have hsz : mayF A k x.k0 (b.lo x.n) (left - 1) + mayF A k x.k1 (b.hi x.n) (left - 1 - mayF A k x.k0 (b.lo x.n) (left - 1)) + 1 = x.s := Decidable.not_not.1 fun e => hq (.inr e)
      have hbare : tBare x = x := Decidable.not_not.1 fun e => hp (.inr e)
      refine ⟨L ++ ⟨x.n, x.v⟩ :: R, .node (g := x.gen) (a := x.k0) (b := x.k1) ?_ hL hR (fun y hy => ?_) (Srt.join hL.srt hR.srt (fun y hy => ?_) (fun y hy => ?_)), ?_, fun y hy => ?_⟩
      · rw [hg, show (L.length : Int) + R.length + 1 = x.s by omega]; exact congrArg some hbare.symm
      · rcases List.mem_append.1 hy with hy | hy
        · exact (bL y hy).2.2 rfl
        · exact (bR y hy).2.2 rfl
      · exact (bL y hy).2.1 rfl
      · exact (bR y hy).1 rfl
      · simp only [List.length_append, List.length_cons]; omega
      · rcases List.mem_append.1 hy with hy | hy
        · have h3 := bL y hy
          exact ⟨h3.1, fun e => by have := h3.2.1 rfl; have h4 := hbx.2.1 e; simp only [Bnd.lo] at this; omega, fun e => befK_trans (hbx.2.2 e) (h3.2.2 rfl)⟩
        · rcases List.mem_cons.1 hy with e | hy
          · rw [e]; exact hbx
          · have h3 := bR y hy
            exact ⟨fun e => by have := h3.1 rfl; have h4 := hbx.1 e; simp only [Bnd.hi] at this; omega, h3.2.1, fun e => befK_trans (hbx.2.2 e) (h3.2.2 rfl)⟩
theorem may_complete {A : Ar} {r : Int} {l : List It} (h : IsT A r l) : ∀ (k : Nat) (b : Bnd) (left : Int), (l.length : Int) ≤ left → left < k → (∀ y ∈ l, b.holds y.k) → mayF A k r b left = l.length := by
  induction h with
  | nil => intro k b left h1 h2 _; cases k with
    | zero => omega
    | succ k => exact mayF_0
  | @node r g a b' it L R h1 h2 h3 h4 h5 ih1 ih2 =>
    intro k b left hl hk hb
    simp only [List.length_append, List.length_cons] at hl ⊢
    cases k with
    | zero => omega
    | succ k =>
      have hr : ¬ r = 0 := fun e => by rw [e, getA_0] at h1; cases h1
      have hsp := h5.split
      have hit : b.holds it.k := hb it (by simp)
      have hnb : ¬ (left = 0 ∨ ¬ (tNode g it.k it.v ((L.length : Int) + R.length + 1) a b').kind = 1 ∨ b.bad (tNode g it.k it.v ((L.length : Int) + R.length + 1) a b').n) := by
        rintro (e | e | e)
        · omega
        · exact e rfl
        · exact holds_not.1 hit e
      have e1 : mayF A k a (b.lo it.k) (left - 1) = L.length := ih1 k _ _ (by omega) (by omega) (fun y hy => by
        have := hb y (by simp [hy])
        exact ⟨this.1, fun _ => hsp.2.2.1 y hy, fun _ => h4 y (List.mem_append_left _ hy)⟩)
      have e2 : mayF A k b' (b.hi it.k) (left - 1 - L.length) = R.length := ih2 k _ _ (by omega) (by omega) (fun y hy => by
        have := hb y (by simp [hy])
        exact ⟨fun _ => hsp.2.2.2 y hy, this.2.1, fun _ => h4 y (List.mem_append_right _ hy)⟩)
      rw [mayF_yes hr h1 hnb e1 (by rintro (e | e); omega; exact e rfl) e2 (by rintro (e | e); omega; exact e rfl)]
      omega
theorem bnd0_holds (n : Int) : bnd0.holds n := ⟨fun h => (by cases h), fun h => (by cases h), fun h => (by cases h)⟩
def isMap (A : Ar) (r : Int) : Prop := AOk A ∧ ∃ l, IsT A r l ∧ l.length ≤ 200
theorem isMap_iff {A : Ar} {r : Int} (hA : AOk A) : 0 ≤ mayF A 201 r bnd0 200 ↔ isMap A r := by
  constructor
  · intro h
    obtain ⟨l, h1, h2, _⟩ := may_sound A 201 r bnd0 200 (by decide) (by decide) h
    have := (mayF_le A 201 r bnd0 200 (by decide)).1
    exact ⟨hA, l, h1, by omega⟩
  · rintro ⟨_, l, h1, h2⟩
    rw [may_complete h1 201 bnd0 200 (by omega) (by decide) (fun y _ => bnd0_holds _)]
    omega
noncomputable def isMapB (A : Ar) (r : Int) : Bool := @decide (isMap A r) (Classical.propDecidable _)
theorem isMapB_iff (A : Ar) (r : Int) : isMapB A r = true ↔ isMap A r := by unfold isMapB; exact @decide_eq_true_iff _ (Classical.propDecidable _)
theorem isMapB_yes {A : Ar} {r : Int} (h : isMap A r) : isMapB A r = true := (isMapB_iff A r).2 h
theorem isMapB_no {A : Ar} {r : Int} (h : ¬ isMap A r) : isMapB A r = false := by rw [Bool.eq_false_iff]; exact fun e => h ((isMapB_iff A r).1 e)
def frC (na fa : Option Addr) (nc fc : Nat) (A : Ar) (bad : Int) : List Value := [.slice na A.nodes.length nc, .slice fa A.free.length fc, .int .i64 bad]
def bare1 (y : Node) (a b : Int) : Node := ⟨y.kind, y.gen, y.n, y.v, y.s, a, b, 0, 0, 0, 0, 0, 0, 0, 0, 0⟩
theorem bare1_iff {y : Node} (h : y.kind = 1) : bare1 y y.k0 y.k1 = y ↔ tBare y = y := by
  unfold bare1 tBare tNode; rw [h]
theorem row_pre {w : World} {b : Nat} {xs ys : List Value} {e : TypeId} (h : Has w b (xs ++ ys) e) : Row w ⟨b, 0, none⟩ xs := fun i v hv => h.row i v (by rw [List.getElem?_append_left (lt_of_get hv)]; exact hv)
def frA (na fa : Option Addr) (nc fc : Nat) (A : Ar) : List Value := [.slice na A.nodes.length nc, .slice fa A.free.length fc]
set_option maxHeartbeats 4000000 in
theorem c_may (A : Ar) (na fa : Option Addr) (nc fc : Nat) (bad : Int) (bf : Nat) : ∀ (k : Nat) (r : Int) (b : Bnd) (left : Int) (w : World), U64 r → 0 ≤ left → left < k → left ≤ 200 → Has w bf (frC na fa nc fc A bad) 130 → ArR w na fa A →
    FC Tryz.prog 188 [.pointer (some ⟨bf, 0, none⟩), .int .u64 r, .agg b.cells.toArray, .int .i64 left] w (Val (.int .i64 (mayF A k r b left)) w) := by
  intro k
  induction k with
  | zero => intro r b left w _ h1 h2; omega
  | succ k ih =>
  intro r b left w hr hl0 hlk hl hbf hA
  obtain ⟨y, e, hgv, hgs, hgn⟩ := getV_form2 A r
  refine FC.intro Tryz.func188 rfl Tryz.ntmps188 rfl ?_
  have S := Sub.refl w
  refine RC.seq (RC.region rfl ?_);refine RL.box rfl rfl rfl (fun b_6 w_6 e_6 z_6 hb_6 s_6 => ?_);have S := S.trans s_6;have hbf := hbf.sub s_6
  have hb_6 : Has w_6 b_6 (b.cells) _ := hb_6
  refine RL.asS rfl ?_;refine RL.nil (RC.back (RC.seq (RC.seq (RC.region rfl ?_))));refine RL.mvS rfl ?_;refine RL.eS (.bin rfl rfl rfl) ?_;refine RL.nil (RC.back ?_);refine RC.cond_dec rfl (fun h1 => ?_) (fun h1 => ?_)
  ·
    have hres : mayF A (k + 1) r b left = 0 := (by rw [h1, mayF_0])
    refine RC.seq (RC.region rfl ?_);refine RL.asS rfl ?_;refine RL.nil (RC.back ?_);refine RC.d1 8 rfl rfl rfl ?_
    exact ⟨congrArg (Value.int .i64) hres.symm, S⟩
  ·
    have hr0 := h1
    refine RC.skip (RC.back (RC.seq (RC.region rfl ?_)));refine RL.mvS rfl ?_;refine RL.eS (.nilCheck rfl) ?_;refine RL.eS (.field0 fo130_0 rfl) ?_;refine RL.eS (.loadR ([.slice na A.nodes.length nc, .slice fa A.free.length fc]) sh26 rfl (row_pre (xs := frA na fa nc fc A) (ys := [.int .i64 bad]) hbf) rfl) ?_;refine RL.mvS rfl ?_;refine RL.call rfl ok125 (c_aGet A na fa nc fc r hr w_6 (hA.sub S)) rfl rfl ?_;rintro _ w2 ⟨rfl, s3⟩;have S := S.trans s3;have hbf := hbf.sub s3;have hb_6 := hb_6.sub s3;refine RL.eS (.as (v' := .tuple #[y.val, .int .i64 e]) (.move rfl) (by rw [hgv])) ?_;refine RL.eS (.extract rfl rfl) ?_;refine RL.eS (.extract rfl rfl) ?_;refine RL.alloc ze140 rfl rfl (fun b_9 w_9 e_9 z_9 hb_9 s_9 => ?_);have ge_9 := S.le e_9;have nf__9 := hbf.ne e_9;have n_6__9 := hb_6.ne e_9;have S := S.trans s_9;have hbf := hbf.sub s_9;have hb_6 := hb_6.sub s_9;refine RL.stS sh140 rfl rfl rfl hb_9 (fun w4 z4 hb_9 a4 => ?_);have S := S.upd a4 ge_9;have hbf := hbf.upd a4 nf__9;have hb_6 := hb_6.upd a4 n_6__9
    have hb_9 : Has w4 b_9 (y.cells) _ := hb_9.now (by kernel_rfl)
    refine RL.asS rfl ?_;refine RL.nil (RC.back ?_);refine RC.cutx (α := Unit) (fun _ => [(0, .pointer (some ⟨bf, 0, none⟩)), (3, .int .i64 left), (6, .pointer (some ⟨b_6, 0, none⟩)), (9, .pointer (some ⟨b_9, 0, none⟩))]) (fun _ w5 => getA A r = some y ∧ (¬ (left = 0 ∨ ¬ y.kind = 1 ∨ b.bad y.n)) ∧ Has w5 bf (frC na fa nc fc A bad) 130 ∧ Has w5 b_6 b.cells 272 ∧ Has w5 b_9 y.cells 140 ∧ Sub w w5) ?_ (fun _ w5 hJ => ?_)
    ·
      refine RC.seq (RC.region rfl ?_);refine RL.mvS rfl ?_;refine RL.eS (.bin rfl rfl rfl) ?_;refine RL.mvS rfl ?_;refine RL.split 30 rfl (fun h6 => ?_) (fun h6 => ?_)
      ·
        have hres : mayF A (k + 1) r b left = -1 := (by cases hg : getA A r with | none => exact mayF_none hr0 hg | some x => exact absurd (hgs x hg).2 h6)
        refine RL.offs 2 rfl ?_;refine RL.eS (.pick_t rfl rfl) ?_;refine RL.mvS rfl ?_;refine RL.offs 3 rfl ?_;refine RL.eS (.pick_t rfl rfl) ?_;refine RL.mvS rfl ?_;refine RL.offs 9 rfl ?_;refine RL.eS (.pick_t rfl rfl) ?_;refine RL.mvS rfl ?_;refine RL.offs 9 rfl ?_;refine RL.eS (.pick_t rfl rfl) ?_;refine RL.mvS rfl ?_;refine RL.offs 10 rfl ?_;refine RL.eS (.pick_t rfl rfl) ?_;refine RL.nil (RC.back ?_);refine RC.cond_t rfl ?_;refine RC.seq (RC.region rfl ?_);refine RL.asS rfl ?_;refine RL.nil (RC.back ?_);refine RC.d1 8 rfl rfl rfl ?_
        exact ⟨congrArg (Value.int .i64) hres.symm, S⟩
      ·
        have hy : getA A r = some y := (by cases hg : getA A r with | none => have := (hgn hg).2; omega | some x => rw [(hgs x hg).1])
        refine RL.mvS rfl ?_;refine RL.eS (.bin rfl rfl rfl) ?_;refine RL.eS (.pick_f rfl rfl) ?_;refine RL.mvS rfl ?_;refine RL.split 34 rfl (fun h7 => ?_) (fun h7 => ?_)
        ·
          have hres := mayF_bad (k := k) (b := b) hr0 hy (.inl h7)
          refine RL.offs 3 rfl ?_;refine RL.eS (.pick_t rfl rfl) ?_;refine RL.mvS rfl ?_;refine RL.offs 9 rfl ?_;refine RL.eS (.pick_t rfl rfl) ?_;refine RL.mvS rfl ?_;refine RL.offs 9 rfl ?_;refine RL.eS (.pick_t rfl rfl) ?_;refine RL.mvS rfl ?_;refine RL.offs 10 rfl ?_;refine RL.eS (.pick_t rfl rfl) ?_;refine RL.nil (RC.back ?_);refine RC.cond_t rfl ?_;refine RC.seq (RC.region rfl ?_);refine RL.asS rfl ?_;refine RL.nil (RC.back ?_);refine RC.d1 8 rfl rfl rfl ?_
          exact ⟨congrArg (Value.int .i64) hres.symm, S⟩
        ·
          have p34 := h7
          refine RL.eS (.field0 fo140_0 rfl) ?_;refine RL.eS (.load1 sh3 rfl (hb_9.cell rfl)) ?_;refine RL.eS (.bin rfl rfl rfl) ?_;refine RL.eS (.pick_f rfl rfl) ?_;refine RL.mvS rfl ?_;refine RL.split 39 rfl (fun h8 => ?_) (fun h8 => ?_)
          ·
            have hres := mayF_bad (k := k) (b := b) (left := left) hr0 hy (.inr (.inl h8))
            refine RL.offs 9 rfl ?_;refine RL.eS (.pick_t rfl rfl) ?_;refine RL.mvS rfl ?_;refine RL.offs 9 rfl ?_;refine RL.eS (.pick_t rfl rfl) ?_;refine RL.mvS rfl ?_;refine RL.offs 10 rfl ?_;refine RL.eS (.pick_t rfl rfl) ?_;refine RL.nil (RC.back ?_);refine RC.cond_t rfl ?_;refine RC.seq (RC.region rfl ?_);refine RL.asS rfl ?_;refine RL.nil (RC.back ?_);refine RC.d1 8 rfl rfl rfl ?_
            exact ⟨congrArg (Value.int .i64) hres.symm, S⟩
          ·
            have p39 := h8
            refine RL.eS (.field0 fo272_2 rfl) ?_;refine RL.eS (.load1 sh4 rfl (hb_6.cell rfl)) ?_;refine RL.mvS rfl ?_;refine RL.splitB 42 rfl (fun h9 => ?_) (fun h9 => ?_)
            ·
              have qL := h9
              refine RL.eS (.field0 fo140_2 rfl) ?_;refine RL.eS (.load1 sh2 rfl (hb_9.cell rfl)) ?_;refine RL.eS (.field0 fo272_0 rfl) ?_;refine RL.eS (.load1 sh2 rfl (hb_6.cell rfl)) ?_;refine RL.eS (.bin rfl rfl rfl) ?_;refine RL.eS (.pick_t rfl rfl) ?_;refine RL.eS (.pick_f rfl rfl) ?_;refine RL.mvS rfl ?_;refine RL.split 50 rfl (fun h10 => ?_) (fun h10 => ?_)
              ·
                have hres := mayF_bad (k := k) (b := b) (left := left) hr0 hy (.inr (.inr (.inl ⟨qL, h10⟩)))
                refine RL.offs 9 rfl ?_;refine RL.eS (.pick_t rfl rfl) ?_;refine RL.mvS rfl ?_;refine RL.offs 10 rfl ?_;refine RL.eS (.pick_t rfl rfl) ?_;refine RL.nil (RC.back ?_);refine RC.cond_t rfl ?_;refine RC.seq (RC.region rfl ?_);refine RL.asS rfl ?_;refine RL.nil (RC.back ?_);refine RC.d1 8 rfl rfl rfl ?_
                exact ⟨congrArg (Value.int .i64) hres.symm, S⟩
              ·
                have pL := h10
                refine RL.eS (.field0 fo272_3 rfl) ?_;refine RL.eS (.load1 sh4 rfl (hb_6.cell rfl)) ?_;refine RL.mvS rfl ?_;refine RL.splitB 53 rfl (fun h11 => ?_) (fun h11 => ?_)
                ·
                  have qH := h11
                  refine RL.eS (.field0 fo140_2 rfl) ?_;refine RL.eS (.load1 sh2 rfl (hb_9.cell rfl)) ?_;refine RL.eS (.field0 fo272_1 rfl) ?_;refine RL.eS (.load1 sh2 rfl (hb_6.cell rfl)) ?_;refine RL.eS (.bin rfl rfl rfl) ?_;refine RL.eS (.pick_t rfl rfl) ?_;refine RL.eS (.pick_f rfl rfl) ?_;refine RL.mvS rfl ?_;refine RL.split 61 rfl (fun h12 => ?_) (fun h12 => ?_)
                  ·
                    have hres := mayF_bad (k := k) (b := b) (left := left) hr0 hy (.inr (.inr (.inr (.inl ⟨qH, by omega⟩))))
                    refine RL.offs 10 rfl ?_;refine RL.eS (.pick_t rfl rfl) ?_;refine RL.nil (RC.back ?_);refine RC.cond_t rfl ?_;refine RC.seq (RC.region rfl ?_);refine RL.asS rfl ?_;refine RL.nil (RC.back ?_);refine RC.d1 8 rfl rfl rfl ?_
                    exact ⟨congrArg (Value.int .i64) hres.symm, S⟩
                  ·
                    have pH := h12
                    refine RL.eS (.field0 fo272_5 rfl) ?_;refine RL.eS (.load1 sh4 rfl (hb_6.cell rfl)) ?_;refine RL.mvS rfl ?_;refine RL.splitB 64 rfl (fun h13 => ?_) (fun h13 => ?_)
                    ·
                      have qA := h13
                      refine RL.eS (.field0 fo272_4 rfl) ?_;refine RL.eS (.load1 sh2 rfl (hb_6.cell rfl)) ?_;refine RL.eS (.field0 fo140_2 rfl) ?_;refine RL.eS (.load1 sh2 rfl (hb_9.cell rfl)) ?_;refine RL.call rfl ok195 (c_before b.above y.n w4) rfl rfl ?_;rintro _ w14 ⟨rfl, s15⟩;have S := S.trans s15;have hbf := hbf.sub s15;have hb_6 := hb_6.sub s15;have hb_9 := hb_9.sub s15;refine RL.eS (.not rfl) ?_;refine RL.eS (.pick_t rfl rfl) ?_;refine RL.eS (.pick_f rfl rfl) ?_;refine RL.nil (RC.back ?_);refine RC.cond rfl (fun h16 => ?_) (fun h16 => ?_)
                      ·
                        have hres := mayF_bad (k := k) (b := b) (left := left) hr0 hy (.inr (.inr (.inr (.inr ⟨qA, by simpa using h16⟩))))
                        refine RC.seq (RC.region rfl ?_);refine RL.asS rfl ?_;refine RL.nil (RC.back ?_);refine RC.d1 8 rfl rfl rfl ?_
                        exact ⟨congrArg (Value.int .i64) hres.symm, S⟩
                      ·
                        have pA := h16
                        exact RC.skip (fun a ka => ⟨(), ⟨hy, by rintro (q | q | (q | q | q)); exact p34 q; exact p39 q; (first | exact pL q.2 | (rw [q.1] at qL; cases qL)); (first | exact pH (by have := q.2; omega) | (rw [q.1] at qH; cases qH)); (first | (rw [q.1] at qA; cases qA; done) | (rw [q.2] at pA; cases pA; done)), hbf, hb_6, hb_9, S⟩, ka.keep (keep_of (by repeat (first | exact trivial | refine And.intro rfl ?_)))⟩)
                    ·
                      have qA := h13
                      refine RL.offs 6 rfl ?_;refine RL.eS (.pick_f rfl rfl) ?_;refine RL.eS (.pick_f rfl rfl) ?_;refine RL.nil (RC.back ?_);refine RC.cond_f rfl ?_
                      exact RC.skip (fun a ka => ⟨(), ⟨hy, by rintro (q | q | (q | q | q)); exact p34 q; exact p39 q; (first | exact pL q.2 | (rw [q.1] at qL; cases qL)); (first | exact pH (by have := q.2; omega) | (rw [q.1] at qH; cases qH)); (first | (rw [q.1] at qA; cases qA; done) | (rw [q.2] at pA; cases pA; done)), hbf, hb_6, hb_9, S⟩, ka.keep (keep_of (by repeat (first | exact trivial | refine And.intro rfl ?_)))⟩)
                ·
                  have qH := h11
                  refine RL.offs 5 rfl ?_;refine RL.eS (.pick_f rfl rfl) ?_;refine RL.eS (.pick_f rfl rfl) ?_;refine RL.mvS rfl ?_;refine RL.eS (.field0 fo272_5 rfl) ?_;refine RL.eS (.load1 sh4 rfl (hb_6.cell rfl)) ?_;refine RL.mvS rfl ?_;refine RL.splitB 64 rfl (fun h17 => ?_) (fun h17 => ?_)
                  ·
                    have qA := h17
                    refine RL.eS (.field0 fo272_4 rfl) ?_;refine RL.eS (.load1 sh2 rfl (hb_6.cell rfl)) ?_;refine RL.eS (.field0 fo140_2 rfl) ?_;refine RL.eS (.load1 sh2 rfl (hb_9.cell rfl)) ?_;refine RL.call rfl ok195 (c_before b.above y.n w4) rfl rfl ?_;rintro _ w18 ⟨rfl, s19⟩;have S := S.trans s19;have hbf := hbf.sub s19;have hb_6 := hb_6.sub s19;have hb_9 := hb_9.sub s19;refine RL.eS (.not rfl) ?_;refine RL.eS (.pick_t rfl rfl) ?_;refine RL.eS (.pick_f rfl rfl) ?_;refine RL.nil (RC.back ?_);refine RC.cond rfl (fun h20 => ?_) (fun h20 => ?_)
                    ·
                      have hres := mayF_bad (k := k) (b := b) (left := left) hr0 hy (.inr (.inr (.inr (.inr ⟨qA, by simpa using h20⟩))))
                      refine RC.seq (RC.region rfl ?_);refine RL.asS rfl ?_;refine RL.nil (RC.back ?_);refine RC.d1 8 rfl rfl rfl ?_
                      exact ⟨congrArg (Value.int .i64) hres.symm, S⟩
                    ·
                      have pA := h20
                      exact RC.skip (fun a ka => ⟨(), ⟨hy, by rintro (q | q | (q | q | q)); exact p34 q; exact p39 q; (first | exact pL q.2 | (rw [q.1] at qL; cases qL)); (first | exact pH (by have := q.2; omega) | (rw [q.1] at qH; cases qH)); (first | (rw [q.1] at qA; cases qA; done) | (rw [q.2] at pA; cases pA; done)), hbf, hb_6, hb_9, S⟩, ka.keep (keep_of (by repeat (first | exact trivial | refine And.intro rfl ?_)))⟩)
                  ·
                    have qA := h17
                    refine RL.offs 6 rfl ?_;refine RL.eS (.pick_f rfl rfl) ?_;refine RL.eS (.pick_f rfl rfl) ?_;refine RL.nil (RC.back ?_);refine RC.cond_f rfl ?_
                    exact RC.skip (fun a ka => ⟨(), ⟨hy, by rintro (q | q | (q | q | q)); exact p34 q; exact p39 q; (first | exact pL q.2 | (rw [q.1] at qL; cases qL)); (first | exact pH (by have := q.2; omega) | (rw [q.1] at qH; cases qH)); (first | (rw [q.1] at qA; cases qA; done) | (rw [q.2] at pA; cases pA; done)), hbf, hb_6, hb_9, S⟩, ka.keep (keep_of (by repeat (first | exact trivial | refine And.intro rfl ?_)))⟩)
            ·
              have qL := h9
              refine RL.offs 5 rfl ?_;refine RL.eS (.pick_f rfl rfl) ?_;refine RL.eS (.pick_f rfl rfl) ?_;refine RL.mvS rfl ?_;refine RL.eS (.field0 fo272_3 rfl) ?_;refine RL.eS (.load1 sh4 rfl (hb_6.cell rfl)) ?_;refine RL.mvS rfl ?_;refine RL.splitB 53 rfl (fun h21 => ?_) (fun h21 => ?_)
              ·
                have qH := h21
                refine RL.eS (.field0 fo140_2 rfl) ?_;refine RL.eS (.load1 sh2 rfl (hb_9.cell rfl)) ?_;refine RL.eS (.field0 fo272_1 rfl) ?_;refine RL.eS (.load1 sh2 rfl (hb_6.cell rfl)) ?_;refine RL.eS (.bin rfl rfl rfl) ?_;refine RL.eS (.pick_t rfl rfl) ?_;refine RL.eS (.pick_f rfl rfl) ?_;refine RL.mvS rfl ?_;refine RL.split 61 rfl (fun h22 => ?_) (fun h22 => ?_)
                ·
                  have hres := mayF_bad (k := k) (b := b) (left := left) hr0 hy (.inr (.inr (.inr (.inl ⟨qH, by omega⟩))))
                  refine RL.offs 10 rfl ?_;refine RL.eS (.pick_t rfl rfl) ?_;refine RL.nil (RC.back ?_);refine RC.cond_t rfl ?_;refine RC.seq (RC.region rfl ?_);refine RL.asS rfl ?_;refine RL.nil (RC.back ?_);refine RC.d1 8 rfl rfl rfl ?_
                  exact ⟨congrArg (Value.int .i64) hres.symm, S⟩
                ·
                  have pH := h22
                  refine RL.eS (.field0 fo272_5 rfl) ?_;refine RL.eS (.load1 sh4 rfl (hb_6.cell rfl)) ?_;refine RL.mvS rfl ?_;refine RL.splitB 64 rfl (fun h23 => ?_) (fun h23 => ?_)
                  ·
                    have qA := h23
                    refine RL.eS (.field0 fo272_4 rfl) ?_;refine RL.eS (.load1 sh2 rfl (hb_6.cell rfl)) ?_;refine RL.eS (.field0 fo140_2 rfl) ?_;refine RL.eS (.load1 sh2 rfl (hb_9.cell rfl)) ?_;refine RL.call rfl ok195 (c_before b.above y.n w4) rfl rfl ?_;rintro _ w24 ⟨rfl, s25⟩;have S := S.trans s25;have hbf := hbf.sub s25;have hb_6 := hb_6.sub s25;have hb_9 := hb_9.sub s25;refine RL.eS (.not rfl) ?_;refine RL.eS (.pick_t rfl rfl) ?_;refine RL.eS (.pick_f rfl rfl) ?_;refine RL.nil (RC.back ?_);refine RC.cond rfl (fun h26 => ?_) (fun h26 => ?_)
                    ·
                      have hres := mayF_bad (k := k) (b := b) (left := left) hr0 hy (.inr (.inr (.inr (.inr ⟨qA, by simpa using h26⟩))))
                      refine RC.seq (RC.region rfl ?_);refine RL.asS rfl ?_;refine RL.nil (RC.back ?_);refine RC.d1 8 rfl rfl rfl ?_
                      exact ⟨congrArg (Value.int .i64) hres.symm, S⟩
                    ·
                      have pA := h26
                      exact RC.skip (fun a ka => ⟨(), ⟨hy, by rintro (q | q | (q | q | q)); exact p34 q; exact p39 q; (first | exact pL q.2 | (rw [q.1] at qL; cases qL)); (first | exact pH (by have := q.2; omega) | (rw [q.1] at qH; cases qH)); (first | (rw [q.1] at qA; cases qA; done) | (rw [q.2] at pA; cases pA; done)), hbf, hb_6, hb_9, S⟩, ka.keep (keep_of (by repeat (first | exact trivial | refine And.intro rfl ?_)))⟩)
                  ·
                    have qA := h23
                    refine RL.offs 6 rfl ?_;refine RL.eS (.pick_f rfl rfl) ?_;refine RL.eS (.pick_f rfl rfl) ?_;refine RL.nil (RC.back ?_);refine RC.cond_f rfl ?_
                    exact RC.skip (fun a ka => ⟨(), ⟨hy, by rintro (q | q | (q | q | q)); exact p34 q; exact p39 q; (first | exact pL q.2 | (rw [q.1] at qL; cases qL)); (first | exact pH (by have := q.2; omega) | (rw [q.1] at qH; cases qH)); (first | (rw [q.1] at qA; cases qA; done) | (rw [q.2] at pA; cases pA; done)), hbf, hb_6, hb_9, S⟩, ka.keep (keep_of (by repeat (first | exact trivial | refine And.intro rfl ?_)))⟩)
              ·
                have qH := h21
                refine RL.offs 5 rfl ?_;refine RL.eS (.pick_f rfl rfl) ?_;refine RL.eS (.pick_f rfl rfl) ?_;refine RL.mvS rfl ?_;refine RL.eS (.field0 fo272_5 rfl) ?_;refine RL.eS (.load1 sh4 rfl (hb_6.cell rfl)) ?_;refine RL.mvS rfl ?_;refine RL.splitB 64 rfl (fun h27 => ?_) (fun h27 => ?_)
                ·
                  have qA := h27
                  refine RL.eS (.field0 fo272_4 rfl) ?_;refine RL.eS (.load1 sh2 rfl (hb_6.cell rfl)) ?_;refine RL.eS (.field0 fo140_2 rfl) ?_;refine RL.eS (.load1 sh2 rfl (hb_9.cell rfl)) ?_;refine RL.call rfl ok195 (c_before b.above y.n w4) rfl rfl ?_;rintro _ w28 ⟨rfl, s29⟩;have S := S.trans s29;have hbf := hbf.sub s29;have hb_6 := hb_6.sub s29;have hb_9 := hb_9.sub s29;refine RL.eS (.not rfl) ?_;refine RL.eS (.pick_t rfl rfl) ?_;refine RL.eS (.pick_f rfl rfl) ?_;refine RL.nil (RC.back ?_);refine RC.cond rfl (fun h30 => ?_) (fun h30 => ?_)
                  ·
                    have hres := mayF_bad (k := k) (b := b) (left := left) hr0 hy (.inr (.inr (.inr (.inr ⟨qA, by simpa using h30⟩))))
                    refine RC.seq (RC.region rfl ?_);refine RL.asS rfl ?_;refine RL.nil (RC.back ?_);refine RC.d1 8 rfl rfl rfl ?_
                    exact ⟨congrArg (Value.int .i64) hres.symm, S⟩
                  ·
                    have pA := h30
                    exact RC.skip (fun a ka => ⟨(), ⟨hy, by rintro (q | q | (q | q | q)); exact p34 q; exact p39 q; (first | exact pL q.2 | (rw [q.1] at qL; cases qL)); (first | exact pH (by have := q.2; omega) | (rw [q.1] at qH; cases qH)); (first | (rw [q.1] at qA; cases qA; done) | (rw [q.2] at pA; cases pA; done)), hbf, hb_6, hb_9, S⟩, ka.keep (keep_of (by repeat (first | exact trivial | refine And.intro rfl ?_)))⟩)
                ·
                  have qA := h27
                  refine RL.offs 6 rfl ?_;refine RL.eS (.pick_f rfl rfl) ?_;refine RL.eS (.pick_f rfl rfl) ?_;refine RL.nil (RC.back ?_);refine RC.cond_f rfl ?_
                  exact RC.skip (fun a ka => ⟨(), ⟨hy, by rintro (q | q | (q | q | q)); exact p34 q; exact p39 q; (first | exact pL q.2 | (rw [q.1] at qL; cases qL)); (first | exact pH (by have := q.2; omega) | (rw [q.1] at qH; cases qH)); (first | (rw [q.1] at qA; cases qA; done) | (rw [q.2] at pA; cases pA; done)), hbf, hb_6, hb_9, S⟩, ka.keep (keep_of (by repeat (first | exact trivial | refine And.intro rfl ?_)))⟩)
    obtain ⟨hy, hnb, hbf, hb_6, hb_9, S⟩ := hJ
    have hk1 : y.kind = 1 := Decidable.not_not.1 (fun e => hnb (.inr (.inl e)))
    have hleft : ¬ left = 0 := (fun e => hnb (.inl e))
    refine RC.seq (RC.region rfl ?_);refine RL.eS (.field0 fo140_0 rfl) ?_;refine RL.eS (.load1 sh3 rfl (hb_9.cell rfl)) ?_;refine RL.eS (.field0 fo140_1 rfl) ?_;refine RL.eS (.load1 sh3 rfl (hb_9.cell rfl)) ?_;refine RL.eS (.field0 fo140_2 rfl) ?_;refine RL.eS (.load1 sh2 rfl (hb_9.cell rfl)) ?_;refine RL.eS (.field0 fo140_3 rfl) ?_;refine RL.eS (.load1 sh2 rfl (hb_9.cell rfl)) ?_;refine RL.eS (.field0 fo140_4 rfl) ?_;refine RL.eS (.load1 sh2 rfl (hb_9.cell rfl)) ?_;refine RL.eS (.buildS ze140 pl140 rfl rfl) ?_;refine RL.alloc ze140 rfl rfl (fun b_11 w_11 e_11 z_11 hb_11 s_11 => ?_);have ge_11 := S.le e_11;have nf__11 := hbf.ne e_11;have n_6__11 := hb_6.ne e_11;have n_9__11 := hb_9.ne e_11;have S := S.trans s_11;have hbf := hbf.sub s_11;have hb_6 := hb_6.sub s_11;have hb_9 := hb_9.sub s_11;refine RL.stS sh140 rfl rfl rfl hb_11 (fun w31 z31 hb_11 a31 => ?_);have S := S.upd a31 ge_11;have hbf := hbf.upd a31 nf__11;have hb_6 := hb_6.upd a31 n_6__11;have hb_9 := hb_9.upd a31 n_9__11
    have hb_11 : Has w31 b_11 ((bare1 y 0 0).cells) _ := hb_11.now (by kernel_rfl)
    refine RL.nil (RC.back ?_);refine RC.cutx (α := Unit) (fun _ => [(0, .pointer (some ⟨bf, 0, none⟩)), (3, .int .i64 left), (6, .pointer (some ⟨b_6, 0, none⟩)), (9, .pointer (some ⟨b_9, 0, none⟩)), (11, .pointer (some ⟨b_11, 0, none⟩))]) (fun _ w32 => Has w32 bf (frC na fa nc fc A bad) 130 ∧ Has w32 b_6 b.cells 272 ∧ Has w32 b_9 y.cells 140 ∧ Has w32 b_11 (bare1 y y.k0 y.k1).cells 140 ∧ Sub w w32) ?_ (fun _ w32 hJ => ?_)
    ·
      refine RC.drawD (fun k => k = b_11) [8, 11] w31.heap.size 12 rfl rfl mxo (fun w33 s34 => ?_)
      have hNN : ∀ k, ((k = b_11) ∨ w31.heap.size ≤ k) → w.heap.size ≤ k := fun k e => e.elim (fun e => e ▸ ge_11) (fun e => Nat.le_trans S.size e)
      have hN0 : ∀ k, w31.heap.size ≤ k → w.heap.size ≤ k := fun k e => Nat.le_trans S.size e
      have ltD_b_9 := hb_9.lt;have szD := Nat.le_refl w31.heap.size;have S := S.trans s34;have hbf := hbf.sub s34;have hb_6 := hb_6.sub s34;have hb_9 := hb_9.sub s34;have hb_11 := hb_11.sub s34;have szD := Nat.le_trans szD s34.size;refine RD.tS 0 rfl (fun w' s' => .field0 fo140_5 rfl) ?_;refine RD.tS 1 rfl (fun w' s' => .indexArr ar138 rfl rfl (by omega)) ?_;refine RD.tS 2 rfl (fun w' s' => .load1 sh31 rfl ((hb_9.step s' (fun e => e.elim (fun e => n_9__11 e) (fun e => Nat.not_le.2 ltD_b_9 e))).cell rfl)) ?_;refine RD.tS 3 rfl (fun w' s' => .field0 fo140_5 rfl) ?_;refine RD.tS 4 rfl (fun w' s' => .indexArr ar138 rfl rfl (by omega)) ?_;refine RD.tS 5 rfl (fun w' s' => .load1 sh31 rfl ((hb_9.step s' (fun e => e.elim (fun e => n_9__11 e) (fun e => Nat.not_le.2 ltD_b_9 e))).cell rfl)) ?_;refine RD.tS 6 rfl (fun w' s' => .field0 fo140_5 rfl) ?_;refine RD.tS 7 rfl (fun w' s' => .indexArr ar138 rfl rfl (by omega)) ?_;refine RD.tS 9 rfl (fun w' s' => .field0 fo140_5 rfl) ?_;refine RD.oneS 8 rfl ?_;refine RL.stS sh31 rfl rfl rfl hb_11 (fun w35 z35 hb_11 a35 => ?_);have S := S.upd a35 ge_11;have hbf := hbf.upd a35 nf__11;have hb_6 := hb_6.upd a35 n_6__11;have hb_9 := hb_9.upd a35 n_9__11;have szD := Nat.le_trans szD a35.size;refine RD.backW rfl (a35.mono fun k _ e => e ▸ (.inl (rfl))) ?_;refine RD.tS 10 rfl (fun w' s' => .indexArr ar138 rfl rfl (by omega)) ?_;refine RD.oneS 11 rfl ?_;refine RL.stS sh31 rfl rfl rfl hb_11 (fun w36 z36 hb_11 a36 => ?_);have S := S.upd a36 ge_11;have hbf := hbf.upd a36 nf__11;have hb_6 := hb_6.upd a36 n_6__11;have hb_9 := hb_9.upd a36 n_9__11;have szD := Nat.le_trans szD a36.size;refine RD.backW rfl (a36.mono fun k _ e => e ▸ (.inl (rfl))) ?_
      exact RD.done (by kernel_rfl) (fun a ka => ⟨(), ⟨hbf, hb_6, hb_9, hb_11, S⟩, ka.keep (keep_of (by repeat (first | exact trivial | refine And.intro rfl ?_)))⟩)
    obtain ⟨hbf, hb_6, hb_9, hb_11, S⟩ := hJ
    refine RC.seq (RC.region rfl ?_);refine RL.eS (.loadR (b.cells) sh272 rfl hb_6.row rfl) ?_;refine RL.alloc ze272 rfl rfl (fun b_12 w_12 e_12 z_12 hb_12 s_12 => ?_);have ge_12 := S.le e_12;have nf__12 := hbf.ne e_12;have n_9__12 := hb_9.ne e_12;have n_11__12 := hb_11.ne e_12;have S := S.trans s_12;have hbf := hbf.sub s_12;have hb_9 := hb_9.sub s_12;have hb_11 := hb_11.sub s_12;refine RL.stS sh272 rfl rfl rfl hb_12 (fun w37 z37 hb_12 a37 => ?_);have S := S.upd a37 ge_12;have hbf := hbf.upd a37 nf__12;have hb_9 := hb_9.upd a37 n_9__12;have hb_11 := hb_11.upd a37 n_11__12
    have hb_12 : Has w37 b_12 (b.cells) _ := hb_12.now (by kernel_rfl)
    refine RL.nil (RC.back (RC.seq (RC.region rfl ?_)));refine RL.eS (.field0 fo140_2 rfl) ?_;refine RL.eS (.load1 sh2 rfl (hb_9.cell rfl)) ?_;refine RL.eS (.field0 fo272_4 rfl) ?_;refine RL.stS sh2 rfl rfl rfl hb_12 (fun w38 z38 hb_12 a38 => ?_);have S := S.upd a38 ge_12;have hbf := hbf.upd a38 nf__12;have hb_9 := hb_9.upd a38 n_9__12;have hb_11 := hb_11.upd a38 n_11__12;refine RL.eS (.field0 fo272_5 rfl) ?_;refine RL.stS sh4 rfl rfl rfl hb_12 (fun w39 z39 hb_12 a39 => ?_);have S := S.upd a39 ge_12;have hbf := hbf.upd a39 nf__12;have hb_9 := hb_9.upd a39 n_9__12;have hb_11 := hb_11.upd a39 n_11__12
    have hb_12 : Has w39 b_12 ((b.below y.n).cells) _ := hb_12
    refine RL.nil (RC.back ?_);refine RC.cutx (α := Nat × Nat) (fun m_ => [(0, .pointer (some ⟨bf, 0, none⟩)), (3, .int .i64 left), (9, .pointer (some ⟨b_9, 0, none⟩)), (11, .pointer (some ⟨b_11, 0, none⟩)), (13, .pointer (some ⟨m_.1, 0, none⟩)), (14, .pointer (some ⟨m_.2, 0, none⟩))]) (fun m_ w40 => (bf ≠ m_.1 ∧ bf ≠ m_.2 ∧ b_9 ≠ m_.1 ∧ b_9 ≠ m_.2 ∧ b_11 ≠ m_.1 ∧ b_11 ≠ m_.2 ∧ m_.1 ≠ m_.2 ∧ w.heap.size ≤ m_.1 ∧ w.heap.size ≤ m_.2) ∧ Has w40 bf (frC na fa nc fc A bad) 130 ∧ Has w40 b_9 y.cells 140 ∧ Has w40 b_11 (bare1 y y.k0 y.k1).cells 140 ∧ Has w40 m_.1 (b.below y.n).cells 272 ∧ Has w40 m_.2 (b.below y.n).cells 272 ∧ Sub w w40) ?_ (fun m_ w40 hJ => ?_)
    ·
      refine RC.drawD (fun k => False) [4, 5] w39.heap.size 6 rfl rfl mxo (fun w41 s42 => ?_)
      have hNN : ∀ k, ((False) ∨ w39.heap.size ≤ k) → w.heap.size ≤ k := fun k e => e.elim (fun e => e.elim) (fun e => Nat.le_trans S.size e)
      have hN0 : ∀ k, w39.heap.size ≤ k → w.heap.size ≤ k := fun k e => Nat.le_trans S.size e
      have ltD_b_12 := hb_12.lt;have szD := Nat.le_refl w39.heap.size;have S := S.trans s42;have hbf := hbf.sub s42;have hb_9 := hb_9.sub s42;have hb_11 := hb_11.sub s42;have hb_12 := hb_12.sub s42;have szD := Nat.le_trans szD s42.size;refine RD.tS 0 rfl (fun w' s' => .loadR ((b.below y.n).cells) sh272 rfl (hb_12.step s' (fun e => e.elim (fun e => e.elim) (fun e => Nat.not_le.2 ltD_b_12 e))).row rfl) ?_;refine RD.tS 1 rfl (fun w' s' => .loadR ((b.below y.n).cells) sh272 rfl (hb_12.step s' (fun e => e.elim (fun e => e.elim) (fun e => Nat.not_le.2 ltD_b_12 e))).row rfl) ?_;refine RD.all [2, 3] (by kernel_rfl) rfl (RDs.cons rfl ?_ (RDs.cons rfl ?_ (RDs.nil)))
      ·
        refine RL.alloc ze272 rfl rfl (fun b_13 w_13 e_13 z_13 hb_13 s_13 => ?_)
        have fr_b_13 : w39.heap.size ≤ b_13 := by rw [e_13]; exact szD
        have ge_13 := S.le e_13;have nf__13 := hbf.ne e_13;have n_9__13 := hb_9.ne e_13;have n_11__13 := hb_11.ne e_13;have S := S.trans s_13;have hbf := hbf.sub s_13;have hb_9 := hb_9.sub s_13;have hb_11 := hb_11.sub s_13;have szD := Nat.le_trans szD s_13.size;refine RD.back s_13.agr ?_;refine RD.oneS 3 rfl ?_;refine RL.alloc ze272 rfl rfl (fun b_14 w_14 e_14 z_14 hb_14 s_14 => ?_)
        have fr_b_14 : w39.heap.size ≤ b_14 := by rw [e_14]; exact szD
        have ge_14 := S.le e_14;have nf__14 := hbf.ne e_14;have n_9__14 := hb_9.ne e_14;have n_11__14 := hb_11.ne e_14;have n_13__14 := hb_13.ne e_14;have S := S.trans s_14;have hbf := hbf.sub s_14;have hb_9 := hb_9.sub s_14;have hb_11 := hb_11.sub s_14;have szD := Nat.le_trans szD s_14.size;have hb_13 := hb_13.sub s_14;refine RD.back s_14.agr ?_;refine RD.oneS 4 rfl ?_;refine RL.stS sh272 rfl rfl rfl hb_13 (fun w43 z43 hb_13 a43 => ?_);have S := S.upd a43 ge_13;have hbf := hbf.upd a43 nf__13;have hb_9 := hb_9.upd a43 n_9__13;have hb_11 := hb_11.upd a43 n_11__13;have szD := Nat.le_trans szD a43.size;have hb_14 := hb_14.upd a43 n_13__14.symm
        have hb_13 : Has w43 b_13 ((b.below y.n).cells) _ := hb_13.now (by kernel_rfl)
        refine RD.backW rfl (a43.mono fun k _ e => e ▸ (.inr fr_b_13)) ?_;refine RD.oneS 5 rfl ?_;refine RL.stS sh272 rfl rfl rfl hb_14 (fun w44 z44 hb_14 a44 => ?_);have S := S.upd a44 ge_14;have hbf := hbf.upd a44 nf__14;have hb_9 := hb_9.upd a44 n_9__14;have hb_11 := hb_11.upd a44 n_11__14;have szD := Nat.le_trans szD a44.size;have hb_13 := hb_13.upd a44 n_13__14
        have hb_14 : Has w44 b_14 ((b.below y.n).cells) _ := hb_14.now (by kernel_rfl)
        refine RD.backW rfl (a44.mono fun k _ e => e ▸ (.inr fr_b_14)) ?_
        exact RD.done (by kernel_rfl) (fun a ka => ⟨(b_13, b_14), ⟨⟨nf__13, nf__14, n_9__13, n_9__14, n_11__13, n_11__14, (by first | exact n_13__14 | exact n_14__13.symm), ge_13, ge_14⟩, hbf, hb_9, hb_11, hb_13, hb_14, S⟩, ka.keep (keep_of (by repeat (first | exact trivial | refine And.intro rfl ?_)))⟩)
      ·
        refine RL.alloc ze272 rfl rfl (fun b_14 w_14 e_14 z_14 hb_14 s_14 => ?_)
        have fr_b_14 : w39.heap.size ≤ b_14 := by rw [e_14]; exact szD
        have ge_14 := S.le e_14;have nf__14 := hbf.ne e_14;have n_9__14 := hb_9.ne e_14;have n_11__14 := hb_11.ne e_14;have S := S.trans s_14;have hbf := hbf.sub s_14;have hb_9 := hb_9.sub s_14;have hb_11 := hb_11.sub s_14;have szD := Nat.le_trans szD s_14.size;refine RD.back s_14.agr ?_;refine RD.oneS 2 rfl ?_;refine RL.alloc ze272 rfl rfl (fun b_13 w_13 e_13 z_13 hb_13 s_13 => ?_)
        have fr_b_13 : w39.heap.size ≤ b_13 := by rw [e_13]; exact szD
        have ge_13 := S.le e_13;have nf__13 := hbf.ne e_13;have n_9__13 := hb_9.ne e_13;have n_11__13 := hb_11.ne e_13;have n_14__13 := hb_14.ne e_13;have S := S.trans s_13;have hbf := hbf.sub s_13;have hb_9 := hb_9.sub s_13;have hb_11 := hb_11.sub s_13;have hb_14 := hb_14.sub s_13;refine RD.back s_13.agr ?_;refine RD.oneS 4 rfl ?_;refine RL.stS sh272 rfl rfl rfl hb_13 (fun w45 z45 hb_13 a45 => ?_);have S := S.upd a45 ge_13;have hbf := hbf.upd a45 nf__13;have hb_9 := hb_9.upd a45 n_9__13;have hb_11 := hb_11.upd a45 n_11__13;have hb_14 := hb_14.upd a45 n_14__13
        have hb_13 : Has w45 b_13 ((b.below y.n).cells) _ := hb_13.now (by kernel_rfl)
        refine RD.backW rfl (a45.mono fun k _ e => e ▸ (.inr fr_b_13)) ?_;refine RD.oneS 5 rfl ?_;refine RL.stS sh272 rfl rfl rfl hb_14 (fun w46 z46 hb_14 a46 => ?_);have S := S.upd a46 ge_14;have hbf := hbf.upd a46 nf__14;have hb_9 := hb_9.upd a46 n_9__14;have hb_11 := hb_11.upd a46 n_11__14;have hb_13 := hb_13.upd a46 n_14__13.symm
        have hb_14 : Has w46 b_14 ((b.below y.n).cells) _ := hb_14.now (by kernel_rfl)
        refine RD.backW rfl (a46.mono fun k _ e => e ▸ (.inr fr_b_14)) ?_
        exact RD.done (by kernel_rfl) (fun a ka => ⟨(b_13, b_14), ⟨⟨nf__13, nf__14, n_9__13, n_9__14, n_11__13, n_11__14, (by first | exact n_13__14 | exact n_14__13.symm), ge_13, ge_14⟩, hbf, hb_9, hb_11, hb_13, hb_14, S⟩, ka.keep (keep_of (by repeat (first | exact trivial | refine And.intro rfl ?_)))⟩)
    obtain ⟨b_13, b_14⟩ := m_
    obtain ⟨⟨nf__13, nf__14, n_9__13, n_9__14, n_11__13, n_11__14, n_13__14, ge_13, ge_14⟩, hbf, hb_9, hb_11, hb_13, hb_14, S⟩ := hJ
    simp only [] at nf__13 nf__14 n_9__13 n_9__14 n_11__13 n_11__14 n_13__14 ge_13 ge_14 hb_13 hb_14
    refine RC.seq (RC.region rfl ?_);refine RL.eS (.field0 fo140_2 rfl) ?_;refine RL.eS (.load1 sh2 rfl (hb_9.cell rfl)) ?_;refine RL.eS (.field0 fo272_1 rfl) ?_;refine RL.stS sh2 rfl rfl rfl hb_13 (fun w47 z47 hb_13 a47 => ?_);have S := S.upd a47 ge_13;have hbf := hbf.upd a47 nf__13;have hb_9 := hb_9.upd a47 n_9__13;have hb_11 := hb_11.upd a47 n_11__13;have hb_14 := hb_14.upd a47 n_13__14.symm;refine RL.eS (.field0 fo272_3 rfl) ?_;refine RL.stS sh4 rfl rfl rfl hb_13 (fun w48 z48 hb_13 a48 => ?_);have S := S.upd a48 ge_13;have hbf := hbf.upd a48 nf__13;have hb_9 := hb_9.upd a48 n_9__13;have hb_11 := hb_11.upd a48 n_11__13;have hb_14 := hb_14.upd a48 n_13__14.symm
    have hb_13 : Has w48 b_13 ((b.lo y.n).cells) _ := hb_13
    refine RL.nil (RC.back (RC.seq (RC.region rfl ?_)));refine RL.eS (.field0 fo140_2 rfl) ?_;refine RL.eS (.load1 sh2 rfl (hb_9.cell rfl)) ?_;refine RL.eS (.field0 fo272_0 rfl) ?_;refine RL.stS sh2 rfl rfl rfl hb_14 (fun w49 z49 hb_14 a49 => ?_);have S := S.upd a49 ge_14;have hbf := hbf.upd a49 nf__14;have hb_9 := hb_9.upd a49 n_9__14;have hb_11 := hb_11.upd a49 n_11__14;have hb_13 := hb_13.upd a49 n_13__14;refine RL.eS (.field0 fo272_2 rfl) ?_;refine RL.stS sh4 rfl rfl rfl hb_14 (fun w50 z50 hb_14 a50 => ?_);have S := S.upd a50 ge_14;have hbf := hbf.upd a50 nf__14;have hb_9 := hb_9.upd a50 n_9__14;have hb_11 := hb_11.upd a50 n_11__14;have hb_13 := hb_13.upd a50 n_13__14
    have hb_14 : Has w50 b_14 ((b.hi y.n).cells) _ := hb_14
    refine RL.nil (RC.back (RC.seq (RC.region rfl ?_)));refine RL.mvS rfl ?_;refine RL.eS (.field0 fo140_5 rfl) ?_;refine RL.eS (.indexArr ar138 rfl rfl (by omega)) ?_;refine RL.eS (.load1 sh31 rfl (hb_9.cell rfl)) ?_;refine RL.eS (.loadR ((b.lo y.n).cells) sh272 rfl hb_13.row rfl) ?_;refine RL.mvS rfl ?_;refine RL.eS (.as (.bin rfl rfl rfl) (wi64 (y := left - 1) (by rfl) (by omega))) ?_;refine RL.call rfl ok188 (ih y.k0 (b.lo y.n) (left - 1) w50 ((hA.nok y (getA_nok hy)).kids _ (by simp [Node.kids])) (by omega) (by omega) (by omega) hbf (hA.sub S)) rfl rfl ?_;rintro _ w51 ⟨rfl, s52⟩;have S := S.trans s52;have hbf := hbf.sub s52;have hb_9 := hb_9.sub s52;have hb_11 := hb_11.sub s52;have hb_14 := hb_14.sub s52
    obtain ⟨p, hp⟩ : ∃ p, mayF A k y.k0 (b.lo y.n) (left - 1) = p := ⟨_, rfl⟩
    have hple := mayF_le A k y.k0 (b.lo y.n) (left - 1) (by omega)
    rw [hp] at hple
    refine RL.eS (.as (v' := .int .i64 p) (.assign rfl) (by rw [hp])) ?_;refine RL.nil (RC.back (RC.seq (RC.seq (RC.region rfl ?_))));refine RL.mvS rfl ?_;refine RL.eS (.bin rfl rfl rfl) ?_;refine RL.mvS rfl ?_;refine RL.split 119 rfl (fun h53 => ?_) (fun h53 => ?_)
    ·
      have hres := mayF_left (k := k) hr0 hy hnb (.inl (by rw [hp]; exact h53))
      refine RL.offs 3 rfl ?_;refine RL.eS (.pick_t rfl rfl) ?_;refine RL.nil (RC.back ?_);refine RC.cond_t rfl ?_;refine RC.seq (RC.region rfl ?_);refine RL.asS rfl ?_;refine RL.nil (RC.back ?_);refine RC.d1 8 rfl rfl rfl ?_
      exact ⟨congrArg (Value.int .i64) hres.symm, S⟩
    ·
      have hp0 := h53
      refine RL.eS (.loadR ((bare1 y y.k0 y.k1).cells) sh140 rfl hb_11.row rfl) ?_;refine RL.eS (.loadR (y.cells) sh140 rfl hb_9.row rfl) ?_;refine RL.eS (.neS (xs := (bare1 y y.k0 y.k1).cells) (ys := y.cells) fk140 eg140 sh140 rfl rfl rfl rfl rfl) ?_;refine RL.eS (.pick_f rfl rfl) ?_;refine RL.nil (RC.back ?_);refine RC.cond rfl (fun h54 => ?_) (fun h54 => ?_)
      ·
        have hres := mayF_left (k := k) hr0 hy hnb (.inr (fun e => by have h2 := h54; rw [eqL_cells, decide_eq_true ((bare1_iff hk1).2 e)] at h2; cases h2))
        refine RC.seq (RC.region rfl ?_);refine RL.asS rfl ?_;refine RL.nil (RC.back ?_);refine RC.d1 8 rfl rfl rfl ?_
        exact ⟨congrArg (Value.int .i64) hres.symm, S⟩
      ·
        have hbr : tBare y = y := (bare1_iff hk1).1 (by have h2 := h54; rw [eqL_cells] at h2; simpa using h2)
        refine RC.skip (RC.back (RC.seq (RC.region rfl ?_)));refine RL.mvS rfl ?_;refine RL.eS (.field0 fo140_5 rfl) ?_;refine RL.eS (.indexArr ar138 rfl rfl (by omega)) ?_;refine RL.eS (.load1 sh31 rfl (hb_9.cell rfl)) ?_;refine RL.eS (.loadR ((b.hi y.n).cells) sh272 rfl hb_14.row rfl) ?_;refine RL.mvS rfl ?_;refine RL.eS (.as (.bin rfl rfl rfl) (wi64 (y := left - 1) (by rfl) (by omega))) ?_;refine RL.mvS rfl ?_;refine RL.eS (.as (.bin rfl rfl rfl) (wi64 (y := left - 1 - p) (by rfl) (by omega))) ?_;refine RL.call rfl ok188 (ih y.k1 (b.hi y.n) (left - 1 - p) w51 ((hA.nok y (getA_nok hy)).kids _ (by simp [Node.kids])) (by omega) (by omega) (by omega) hbf (hA.sub S)) rfl rfl ?_;rintro _ w55 ⟨rfl, s56⟩;have S := S.trans s56;have hb_9 := hb_9.sub s56
        obtain ⟨q, hq⟩ : ∃ q, mayF A k y.k1 (b.hi y.n) (left - 1 - p) = q := ⟨_, rfl⟩
        have hqle := mayF_le A k y.k1 (b.hi y.n) (left - 1 - p) (by omega)
        rw [hq] at hqle
        have hpn : ¬ (p < 0 ∨ ¬ tBare y = y) := (fun e => e.elim hp0 (fun e => e hbr))
        refine RL.eS (.as (v' := .int .i64 q) (.assign rfl) (by rw [hq])) ?_;refine RL.nil (RC.back (RC.seq (RC.seq (RC.region rfl ?_))));refine RL.mvS rfl ?_;refine RL.eS (.bin rfl rfl rfl) ?_;refine RL.mvS rfl ?_;refine RL.split 136 rfl (fun h57 => ?_) (fun h57 => ?_)
        ·
          have hres := mayF_right (k := k) hr0 hy hnb hp hpn hq (.inl h57)
          refine RL.offs 7 rfl ?_;refine RL.eS (.pick_t rfl rfl) ?_;refine RL.nil (RC.back ?_);refine RC.cond_t rfl ?_;refine RC.seq (RC.region rfl ?_);refine RL.asS rfl ?_;refine RL.nil (RC.back ?_);refine RC.d1 8 rfl rfl rfl ?_
          exact ⟨congrArg (Value.int .i64) hres.symm, S⟩
        ·
          have hq0 := h57
          refine RL.mvS rfl ?_;refine RL.mvS rfl ?_;refine RL.eS (.as (.bin rfl rfl rfl) (wi64 (y := p + q) (by rfl) (by omega))) ?_;refine RL.eS (.as (.bin rfl rfl rfl) (wi64 (y := p + q + 1) (by rfl) (by omega))) ?_;refine RL.eS (.field0 fo140_4 rfl) ?_;refine RL.eS (.load1 sh2 rfl (hb_9.cell rfl)) ?_;refine RL.eS (.bin rfl rfl rfl) ?_;refine RL.eS (.pick_f rfl rfl) ?_;refine RL.nil (RC.back ?_);refine RC.cond_dec rfl (fun h58 => ?_) (fun h58 => ?_)
          ·
            have hres := mayF_right (k := k) hr0 hy hnb hp hpn hq (.inr h58)
            refine RC.seq (RC.region rfl ?_);refine RL.asS rfl ?_;refine RL.nil (RC.back ?_);refine RC.d1 8 rfl rfl rfl ?_
            exact ⟨congrArg (Value.int .i64) hres.symm, S⟩
          ·
            have hres := mayF_yes (k := k) hr0 hy hnb hp hpn hq (fun e => e.elim hq0 (fun e => h58 e))
            refine RC.skip (RC.back (RC.seq (RC.region rfl ?_)));refine RL.mvS rfl ?_;refine RL.mvS rfl ?_;refine RL.eS (.as (.bin rfl rfl rfl) (wi64 (y := p + q) (by rfl) (by omega))) ?_;refine RL.eS (.as (.bin rfl rfl rfl) (wi64 (y := p + q + 1) (by rfl) (by omega))) ?_;refine RL.asS rfl ?_;refine RL.nil (RC.back ?_);refine RC.d1 8 rfl rfl rfl ?_
            exact ⟨congrArg (Value.int .i64) hres.symm, S⟩
noncomputable def allMaps (A : Ar) (l : List Int) : Bool := aokB A && l.all (isMapB A)
theorem may_neg {A : Ar} {r : Int} (hA : AOk A) (h : mayF A 201 r bnd0 200 < 0) : isMapB A r = false := isMapB_no (fun e => by have := (isMap_iff hA).2 e; omega)
theorem may_pos {A : Ar} {r : Int} (hA : AOk A) (h : ¬ mayF A 201 r bnd0 200 < 0) : isMapB A r = true := isMapB_yes ((isMap_iff hA).1 (by omega))
theorem all_take {α : Type} {p : α → Bool} {l : List α} {i : Nat} {x : α} (h : l[i]? = some x) (hp : (l.take i).all p = true) (hx : p x = true) : (l.take (i + 1)).all p = true := by
  rw [List.take_add_one, h, List.all_append, hp]; simp [hx]
theorem all_no {α : Type} {p : α → Bool} {l : List α} {i : Nat} {x : α} (h : l[i]? = some x) (hx : p x = false) : l.all p = false := by
  rw [List.all_eq_false]; exact ⟨x, List.mem_of_getElem? h, by rw [hx]; simp⟩
theorem c_tright (A : Ar) (na fa : Option Addr) (nc fc : Nat) (l : List Int) (m : Nat) (hm : m = l.length) (pa : Option Addr) (pc : Nat) (hl : l.length ≤ 10000) (hli : ∀ x ∈ l, U64 x) (w : World) (hA : ArR w na fa A) (hP : Sl w pa 1 (l.map fun x => [u6 x])) :
  FC Tryz.prog 114 [arV na fa nc fc A, .slice pa m pc] w (Val (.bool (allMaps A l)) w) := by
 subst hm
 have hN := hA.nodes
 have hFr := hA.free
 refine FC.intro Tryz.func114 rfl Tryz.ntmps114 rfl ?_
 have S := Sub.refl w
 refine RC.seq (RC.region rfl ?_);refine RL.box rfl rfl rfl (fun b_2 w_2 e_2 z_2 hb_2 s_2 => ?_);have S := S.trans s_2
 have hb_2 : Has w_2 b_2 ([.slice na A.nodes.length nc, .slice fa A.free.length fc]) _ := hb_2
 refine RL.asS rfl ?_;refine RL.nil (RC.back (RC.seq (RC.region rfl ?_)));refine RL.eS (.loadR ([.slice na A.nodes.length nc, .slice fa A.free.length fc]) sh26 rfl hb_2.row rfl) ?_;refine RL.eS (.buildS ze130 pl130 rfl rfl) ?_;refine RL.box rfl rfl rfl (fun b_10 w_10 e_10 z_10 hb_10 s_10 => ?_);have S := S.trans s_10;have hb_2 := hb_2.sub s_10
 have hb_10 : Has w_10 b_10 (frC na fa nc fc A 0) 130 := hb_10
 refine RL.asS rfl ?_;refine RL.nil (RC.back (RC.seq (RC.seq (RC.region rfl ?_))));refine RL.eS (.loadR ([.slice na A.nodes.length nc, .slice fa A.free.length fc]) sh26 rfl hb_2.row rfl) ?_;refine RL.call rfl ok109 (c_aRight A na fa nc fc w_10 (hA.sub S)) rfl rfl ?_;rintro _ w1 ⟨rfl, s2⟩;have S := S.trans s2;have hb_10 := hb_10.sub s2;refine RL.eS (.not rfl) ?_;refine RL.nil (RC.back ?_);refine RC.cond rfl (fun h3 => ?_) (fun h3 => ?_)
 ·
  have hno : aokB A = false := (by simpa using h3)
  refine RC.seq (RC.region rfl ?_);refine RL.asS rfl ?_;refine RL.nil (RC.back ?_);refine RC.d1 4 rfl rfl rfl ?_
  rw [allMaps, hno]
  exact ⟨rfl, S⟩
 ·
  have hokb : aokB A = true := (by simpa using h3)
  have hok : AOk A := (aokB_iff A).1 hokb
  refine RC.skip (RC.back (RC.seq (RC.seq (RC.region rfl ?_))));refine RL.mvS rfl ?_;refine RL.eS (.len sl73 rfl) ?_;refine RL.mvS rfl ?_;refine RL.nil (RC.back (RC.block ?_));refine RC.loop (α := Nat) (fun i => [(5, .pointer (some ⟨b_10, 0, none⟩)), (14, .slice pa l.length pc), (15, .int .i64 (l.length : Int)), (16, .int .i64 (i : Int))]) (fun i w4 => i ≤ l.length ∧ (l.take i).all (isMapB A) = true ∧ Has w4 b_10 (frC na fa nc fc A 0) 130 ∧ Sub w w4) (fun i => l.length - i) 0 (keep_of (by repeat (first | exact trivial | refine And.intro rfl ?_))) (⟨Nat.zero_le _, rfl, hb_10, S⟩) (fun i w4 hJ => ?_)
  obtain ⟨hi, hp, hb_10, S⟩ := hJ
  refine RC.seq (RC.region rfl ?_);refine RL.eS (.bin rfl rfl rfl) ?_;refine RL.nil (RC.back (RC.seq ?_));refine RC.cond_dec rfl (fun h5 => ?_) (fun h5 => ?_)
  ·
   obtain ⟨y, hy⟩ := getSome (l := l) (i := i) (by omega)
   refine RC.skip (RC.back (RC.seq (RC.block (RC.seq (RC.region rfl ?_)))));refine RL.eS (.indexS sl73 rfl rfl (by omega) (hP.is (i := 0) (by simp only [List.length_map, List.length_cons, List.length_nil]; omega))) ?_;refine RL.eS (.load1 sh31 rfl ((hP.sub S).one (enc := u6) (i := i) hy)) ?_;refine RL.asS rfl ?_;refine RL.nil (RC.back (RC.seq (RC.region rfl ?_)));refine RL.mvS rfl ?_;refine RL.mvS rfl ?_;refine RL.eS (.as (v' := .agg bnd0.cells.toArray) (.buildS ze272 pl272 rfl rfl) (by rfl)) ?_;refine RL.call rfl ok188 (c_may A na fa nc fc 0 b_10 201 y bnd0 200 w4 (hli y (List.mem_of_getElem? hy)) (by decide) (by decide) (by decide) hb_10 (hA.sub S)) rfl rfl ?_;rintro _ w6 ⟨rfl, s7⟩;have S := S.trans s7;have hb_10 := hb_10.sub s7;refine RL.eS (.bin rfl rfl rfl) ?_;refine RL.nil (RC.back ?_);refine RC.cond_dec rfl (fun h8 => ?_) (fun h8 => ?_)
   ·
    have hbad := may_neg hok h8
    refine RC.seq (RC.region rfl ?_);refine RL.asS rfl ?_;refine RL.nil (RC.back ?_);refine RC.d1 4 rfl rfl rfl ?_
    rw [allMaps, all_no hy hbad, Bool.and_false]
    exact ⟨rfl, S⟩
   ·
    have hgood := may_pos hok h8
    refine RC.skip (RC.back (RC.region rfl ?_));refine RL.eS (.as (.bin rfl rfl rfl) (wi64 (y := ((i + 1 : Nat) : Int)) (by omega) (by omega))) ?_;refine RL.mvS rfl ?_
    exact RL.nil (fun a ka => ⟨i + 1, ⟨by omega, all_take hy hp hgood, hb_10, S⟩, by omega, ka.keep (keep_of (by repeat (first | exact trivial | refine And.intro rfl ?_)))⟩)
  ·
   obtain rfl : i = l.length := (by omega)
   rw [List.take_length] at hp
   refine RC.exit rfl (RC.back (RC.seq (RC.region rfl ?_)));refine RL.asS rfl ?_;refine RL.nil (RC.back ?_);refine RC.d1 4 rfl rfl rfl ?_
   rw [allMaps, hp, hokb]
   exact ⟨rfl, S⟩
theorem isMapB_ok (A : Ar) (r : Int) : (aokB A && isMapB A r) = isMapB A r := by
  cases h : isMapB A r with
  | false => exact Bool.and_false _
  | true => rw [aokB_yes ((isMapB_iff A r).1 h).1]; rfl
theorem c_tRight (A : Ar) (na fa : Option Addr) (nc fc : Nat) (r : Int) (hr : U64 r) (w : World) (hA : ArR w na fa A) :
  FC Tryz.prog 54 [arV na fa nc fc A, .int .u64 r] w (Val (.bool (isMapB A r)) w) := by
 have hN := hA.nodes
 have hFr := hA.free
 refine FC.intro Tryz.func54 rfl Tryz.ntmps54 rfl ?_
 have S := Sub.refl w
 refine RC.seq (RC.region rfl ?_);refine RL.box rfl rfl rfl (fun b_2 w_2 e_2 z_2 hb_2 s_2 => ?_);have S := S.trans s_2
 have hb_2 : Has w_2 b_2 ([.slice na A.nodes.length nc, .slice fa A.free.length fc]) _ := hb_2
 refine RL.asS rfl ?_;refine RL.nil (RC.back (RC.seq (RC.region rfl ?_)));refine RL.eS (.loadR ([.slice na A.nodes.length nc, .slice fa A.free.length fc]) sh26 rfl hb_2.row rfl) ?_;refine RL.mvS rfl ?_;refine RL.buildSlice1 sl73 _ ze31 rfl rfl rfl rfl rfl rfl rfl (fun b_7 w_7 e_7 z_7 hb_7 s_7 => ?_);have S := S.trans s_7;refine RL.call rfl ok114 (c_tright A na fa nc fc [r] 1 rfl (some ⟨b_7, 0, none⟩) 1 (Nat.le_of_ble_eq_true rfl) (fun x hx => by rw [List.mem_singleton] at hx; rw [hx]; exact hr) w_7 (hA.sub S) (Has.sl1 (enc := u6) (l := [r]) hb_7)) rfl rfl ?_;rintro _ w1 ⟨rfl, s2⟩;have S := S.trans s2;refine RL.asS rfl ?_;refine RL.nil (RC.back ?_);refine RC.d1 4 rfl rfl rfl ?_
 refine ⟨congrArg Value.bool ?_, S⟩
 rw [allMaps, List.all_cons, List.all_nil, Bool.and_true, isMapB_ok]

theorem it_rows {l : List It} : ∀ r ∈ l.map It.cells, r.length = 2 := fun r hr => by obtain ⟨x, _, rfl⟩ := List.mem_map.1 hr; rfl
def putStep (key v : Int) (s : List It × Bool) (x : It) : List It × Bool :=
  (if x.k = key then (if s.2 = false ∧ key ≤ x.k then s.1 ++ [⟨key, v⟩] else s.1) else (if s.2 = false ∧ key ≤ x.k then s.1 ++ [⟨key, v⟩] else s.1) ++ [x], s.2 || decide (key ≤ x.k))
def putS (l : List It) (key v : Int) : Nat → List It × Bool
  | 0 => ([], false)
  | i + 1 => putStep key v (putS l key v i) (l.getD i it0)
def putR (l : List It) (key v : Int) : List It := if (putS l key v l.length).2 then (putS l key v l.length).1 else (putS l key v l.length).1 ++ [⟨key, v⟩]
theorem putStep_len {key v : Int} {s : List It × Bool} {x : It} {i : Nat} (h : s.1.length ≤ i + (if s.2 then 1 else 0)) : (putStep key v s x).1.length ≤ i + 1 + (if (putStep key v s x).2 then 1 else 0) := by
  obtain ⟨o, d⟩ := s
  simp only [putStep] at h ⊢
  by_cases h2 : key ≤ x.k
  · rw [decide_eq_true h2, Bool.or_true, if_pos rfl]
    cases d <;> simp only [Bool.false_eq_true, if_false, if_true, true_and, false_and] at h ⊢
    · rw [if_pos h2]; split <;> simp <;> omega
    · split <;> simp <;> omega
  · rw [decide_eq_false h2, Bool.or_false]
    cases d <;> simp only [Bool.false_eq_true, if_false, if_true, true_and, false_and] at h ⊢
    · rw [if_neg h2]; split <;> simp <;> omega
    · split <;> simp <;> omega
theorem putS_len (l : List It) (key v : Int) : ∀ i, (putS l key v i).1.length ≤ i + (if (putS l key v i).2 then 1 else 0)
  | 0 => by simp [putS]
  | i + 1 => putStep_len (putS_len l key v i)
theorem putS_step {l : List It} {key v : Int} {i : Nat} {x : It} (h : l[i]? = some x) : putS l key v (i + 1) = (if x.k = key then (if (putS l key v i).2 = false ∧ key ≤ x.k then (putS l key v i).1 ++ [⟨key, v⟩] else (putS l key v i).1) else (if (putS l key v i).2 = false ∧ key ≤ x.k then (putS l key v i).1 ++ [⟨key, v⟩] else (putS l key v i).1) ++ [x], (putS l key v i).2 || decide (key ≤ x.k)) := by
  have : l.getD i it0 = x := by rw [List.getD_eq_getElem?_getD, h]; rfl
  rw [putS, this, putStep]
theorem putS_srt {l : List It} (hs : Srt l) (key v : Int) : ∀ i, i ≤ l.length → (putS l key v i).2 = (l.take i).any (fun x => decide (key ≤ x.k)) ∧ (putS l key v i).1 = (l.take i).filter (fun x => decide (x.k < key)) ++ (if (putS l key v i).2 then ⟨key, v⟩ :: (l.take i).filter (fun x => decide (key < x.k)) else [])
  | 0, _ => by simp [putS]
  | i + 1, hi => by
    obtain ⟨x, hx⟩ := getSome (l := l) (i := i) (by omega)
    obtain ⟨h1, h2⟩ := putS_srt hs key v i (by omega)
    have ht : l.take (i + 1) = l.take i ++ [x] := by rw [List.take_add_one, hx]; rfl
    rw [putS_step hx, ht, h1]
    simp only [List.any_append, List.any_cons, List.any_nil, Bool.or_false, List.filter_append, List.filter_cons, List.filter_nil]
    refine ⟨trivial, ?_⟩
    rw [h1] at h2
    have hlow : ∀ y ∈ l.take i, y.k < x.k := fun y hy => by
      obtain ⟨j, hj⟩ := List.getElem?_of_mem hy
      have hjl := lt_of_get hj
      rw [List.length_take] at hjl
      rw [List.getElem?_take_of_lt (by omega)] at hj
      have := List.pairwise_iff_getElem.1 hs j i (by omega) (by omega) (by omega)
      rw [getElem_of hj, getElem_of hx] at this
      exact this
    cases ha : (l.take i).any (fun x => decide (key ≤ x.k)) with
    | false =>
      rw [ha] at h2
      simp only [Bool.false_eq_true, if_false, List.append_nil] at h2
      simp only [true_and, Bool.false_or]
      rw [h2]
      have hno : (l.take i).filter (fun x => decide (key < x.k)) = [] := by
        rw [List.filter_eq_nil_iff]
        intro y hy
        have := List.any_eq_false.1 ha y hy
        simp only [decide_eq_true_eq] at this ⊢
        omega
      rw [hno]
      by_cases e1 : x.k = key
      · rw [if_pos e1, if_pos (by omega), decide_eq_false (show ¬ x.k < key by omega), decide_eq_true (show key ≤ x.k by omega), decide_eq_false (show ¬ key < x.k by omega)]
        simp
      · rw [if_neg e1]
        by_cases e2 : key ≤ x.k
        · rw [if_pos e2, decide_eq_false (show ¬ x.k < key by omega), decide_eq_true e2, decide_eq_true (show key < x.k by omega)]
          simp
        · rw [if_neg e2, decide_eq_true (show x.k < key by omega), decide_eq_false e2]
          simp
    | true =>
      rw [ha] at h2
      simp only [if_true] at h2
      obtain ⟨y, hy, hyk⟩ := List.any_eq_true.1 ha
      have hyk := of_decide_eq_true hyk
      have := hlow y hy
      simp only [Bool.true_or, if_true]
      rw [if_neg (by omega), if_neg (by rintro ⟨e, _⟩; cases e), h2, decide_eq_false (show ¬ x.k < key by omega), decide_eq_true (show key < x.k by omega)]
      simp
theorem putR_srt {l : List It} (hs : Srt l) (key v : Int) : putR l key v = l.filter (fun x => decide (x.k < key)) ++ ⟨key, v⟩ :: l.filter (fun x => decide (key < x.k)) := by
  obtain ⟨h1, h2⟩ := putS_srt hs key v l.length (Nat.le_refl _)
  rw [List.take_length] at h1 h2
  unfold putR
  rw [h2, h1]
  cases ha : l.any (fun x => decide (key ≤ x.k)) with
  | true => rfl
  | false =>
    have hno : l.filter (fun x => decide (key < x.k)) = [] := by
      rw [List.filter_eq_nil_iff]
      intro y hy
      have := List.any_eq_false.1 ha y hy
      simp only [decide_eq_true_eq] at this ⊢
      omega
    rw [hno]; simp
theorem putR_len (l : List It) (key v : Int) : (putR l key v).length ≤ l.length + 1 := by
  have := putS_len l key v l.length
  unfold putR
  split
  · rename_i h; rw [if_pos h] at this; exact this
  · rename_i h; rw [if_neg h] at this; simp; omega
def fieldAt (P : Program) (t : TypeId) (i : Nat) : Field := match P.underlying t with
  | some (.struct fs) => fs[i]!
  | _ => default
theorem pair155 : PairT Tryz.prog 155 (fieldAt Tryz.prog 155 0) (fieldAt Tryz.prog 155 1) :=
  ⟨by kernel_rfl, by kernel_rfl, by kernel_rfl, by kernel_rfl, by kernel_rfl, by kernel_rfl, by kernel_rfl, by kernel_rfl, by kernel_rfl⟩
def opT : List LE := [⟨2, 1, 1, .int .i64 1⟩, ⟨4, 1, 2, .int .i64 2⟩, ⟨6, 1, 3, .int .i64 1⟩, ⟨8, 1, 4, .int .i64 1⟩, ⟨10, 1, 5, .int .i64 1⟩, ⟨12, 1, 6, .int .i64 0⟩, ⟨14, 2, 1, .int .i64 1⟩, ⟨16, 2, 2, .int .i64 2⟩, ⟨18, 2, 3, .int .i64 1⟩, ⟨20, 2, 6, .int .i64 0⟩, ⟨22, 3, 1, .int .i64 1⟩, ⟨24, 3, 2, .int .i64 1⟩, ⟨26, 3, 3, .int .i64 0⟩, ⟨28, 3, 4, .int .i64 1⟩, ⟨30, 3, 5, .int .i64 0⟩, ⟨32, 3, 6, .int .i64 0⟩, ⟨34, 4, 1, .int .i64 0⟩, ⟨36, 4, 2, .int .i64 2⟩, ⟨38, 4, 3, .int .i64 0⟩, ⟨40, 4, 6, .int .i64 0⟩]
def opN (box kind : Int) : Option Value := (opT.find? fun e => decide (e.a = box ∧ e.c = kind)).map (·.v)
theorem c_numbers (w : World) : FC Tryz.prog 72 [] w (fun v w' => Sub w w' ∧ ∃ b, v = .map (some b) ∧ HasP w' b opN) := by
 refine FC.intro Tryz.func72 rfl Tryz.ntmps72 rfl ?_
 have S := Sub.refl w
 refine RC.seq (RC.region rfl ?_);refine RL.asS rfl ?_;refine RL.nil (RC.back (RC.seq ?_));refine RC.drawD (fun k => False) [] w.heap.size 43 rfl rfl mxo (fun w1 s2 => ?_)
 have hNN : ∀ k, ((False) ∨ w.heap.size ≤ k) → w.heap.size ≤ k := fun k e => e.elim (fun e => e.elim) (fun e => Nat.le_trans S.size e)
 have hN0 : ∀ k, w.heap.size ≤ k → w.heap.size ≤ k := fun k e => Nat.le_trans S.size e
 have szD := Nat.le_refl w.heap.size;have S := S.trans s2;have szD := Nat.le_trans szD s2.size;refine RD.tS 1 rfl (fun w' s' => .buildS ze155 pl155 rfl rfl) ?_;refine RD.tS 3 rfl (fun w' s' => .buildS ze155 pl155 rfl rfl) ?_;refine RD.tS 5 rfl (fun w' s' => .buildS ze155 pl155 rfl rfl) ?_;refine RD.tS 7 rfl (fun w' s' => .buildS ze155 pl155 rfl rfl) ?_;refine RD.tS 9 rfl (fun w' s' => .buildS ze155 pl155 rfl rfl) ?_;refine RD.tS 11 rfl (fun w' s' => .buildS ze155 pl155 rfl rfl) ?_;refine RD.tS 13 rfl (fun w' s' => .buildS ze155 pl155 rfl rfl) ?_;refine RD.tS 15 rfl (fun w' s' => .buildS ze155 pl155 rfl rfl) ?_;refine RD.tS 17 rfl (fun w' s' => .buildS ze155 pl155 rfl rfl) ?_;refine RD.tS 19 rfl (fun w' s' => .buildS ze155 pl155 rfl rfl) ?_;refine RD.tS 21 rfl (fun w' s' => .buildS ze155 pl155 rfl rfl) ?_;refine RD.tS 23 rfl (fun w' s' => .buildS ze155 pl155 rfl rfl) ?_;refine RD.tS 25 rfl (fun w' s' => .buildS ze155 pl155 rfl rfl) ?_;refine RD.tS 27 rfl (fun w' s' => .buildS ze155 pl155 rfl rfl) ?_;refine RD.tS 29 rfl (fun w' s' => .buildS ze155 pl155 rfl rfl) ?_;refine RD.tS 31 rfl (fun w' s' => .buildS ze155 pl155 rfl rfl) ?_;refine RD.tS 33 rfl (fun w' s' => .buildS ze155 pl155 rfl rfl) ?_;refine RD.tS 35 rfl (fun w' s' => .buildS ze155 pl155 rfl rfl) ?_;refine RD.tS 37 rfl (fun w' s' => .buildS ze155 pl155 rfl rfl) ?_;refine RD.tS 39 rfl (fun w' s' => .buildS ze155 pl155 rfl rfl) ?_;refine RD.oneS 0 rfl ?_;refine RL.makeMapP rfl rfl (fun b_1 w_1 e_1 z_1 hb_1 s_1 => ?_)
 have fr_b_1 : w.heap.size ≤ b_1 := by rw [e_1]; exact szD
 have ge_1 := S.le e_1;have S := S.trans s_1;refine RD.back s_1.agr ?_;refine RD.lits opT _ 2 rfl Tryz.underlying152 pair155 (by intro e he; simp only [opT, List.mem_cons, List.not_mem_nil, or_false] at he; rcases he with rfl | rfl | rfl | rfl | rfl | rfl | rfl | rfl | rfl | rfl | rfl | rfl | rfl | rfl | rfl | rfl | rfl | rfl | rfl | rfl <;> exact ⟨_, _, _, _, _, _, rfl, rfl, rfl, rfl, by kernel_rfl⟩) (by decide) (by decide) (by kernel_rfl) (by kernel_rfl) (by simp [opT]) hb_1 fr_b_1 (fun w3 hb_1 a3 => ?_);have S := S.upd a3 ge_1;refine RD.tS 41 rfl (fun w' s' => .move rfl) ?_;refine RD.tS 42 rfl (fun w' s' => .assign rfl) ?_;refine RD.done (by kernel_rfl) (RC.back ?_);refine RC.d1 0 rfl rfl rfl ?_
 exact ⟨S, _, rfl, hb_1⟩
structure OpT where
  box : Int
  kind : Int
  a : Int
  b : Int
  deriving DecidableEq
def OpT.cells (o : OpT) : List Value := [.int .i64 o.box, .int .i64 o.kind, .int .i64 o.a, .int .i64 o.b]
def OpT.ok (o : OpT) : Prop := I64 o.box ∧ I64 o.kind ∧ I64 o.a ∧ I64 o.b
def hasAP (box kind : Int) : Prop := (kind = 1 ∧ ¬ box = 4) ∨ (¬ kind = 1 ∧ (kind = 3 ∨ kind = 5) ∧ ((kind = 3 ∧ box < 3) ∨ box = 1)) ∨ (¬ kind = 1 ∧ ¬ (kind = 3 ∨ kind = 5) ∧ (kind = 2 ∨ kind = 4))
def hasBP (box kind : Int) : Prop := kind = 2 ∧ ¬ box = 3
def kindP (box kind : Int) : Prop := 1 ≤ box ∧ box ≤ 4 ∧ 1 ≤ kind ∧ kind ≤ 6 ∧ ¬ ((box = 2 ∨ box = 4) ∧ (kind = 4 ∨ kind = 5))
def okP (o : OpT) : Prop := kindP o.box o.kind ∧ -1073741824 ≤ o.a ∧ o.a ≤ 1073741824 ∧ -1073741824 ≤ o.b ∧ o.b ≤ 1073741824 ∧ (hasAP o.box o.kind ∨ o.a = 0) ∧ (hasBP o.box o.kind ∨ o.b = 0)
def readsP (o : OpT) : Prop := okP o ∧ (o.kind = 1 ∨ o.kind = 6 ∨ (o.box = 1 ∧ (o.kind = 4 ∨ o.kind = 5)))
instance (b k : Int) : Decidable (hasAP b k) := by unfold hasAP; infer_instance
instance (b k : Int) : Decidable (hasBP b k) := by unfold hasBP; infer_instance
instance (b k : Int) : Decidable (kindP b k) := by unfold kindP; infer_instance
instance (o : OpT) : Decidable (okP o) := by unfold okP; infer_instance
instance (o : OpT) : Decidable (readsP o) := by unfold readsP; infer_instance
theorem c_hasA (box kind : Int) (w : World) : FC Tryz.prog 33 [.int .i64 box, .int .i64 kind] w (Val (.bool (decide (hasAP box kind))) w) := by
 refine FC.intro Tryz.func33 rfl Tryz.ntmps33 rfl ?_
 have S := Sub.refl w
 refine RC.seq (RC.region rfl ?_);refine RL.asS rfl ?_;refine RL.nil (RC.back (RC.seq (RC.seq (RC.region rfl ?_))));refine RL.mvS rfl ?_;refine RL.eS (.bin rfl rfl rfl) ?_;refine RL.nil (RC.back ?_);refine RC.cond_dec rfl (fun h1 => ?_) (fun h1 => ?_)
 ·
  have h6 : kind = 1 := h1
  refine RC.seq (RC.region rfl ?_);refine RL.mvS rfl ?_;refine RL.eS (.bin rfl rfl rfl) ?_;refine RL.asS rfl ?_;refine RL.nil (RC.back ?_);refine RC.d1 4 rfl rfl rfl ?_
  exact ⟨congrArg Value.bool (by (first | exact (decide_eq_true (by (try simp only [hasAP] at *); omega)).symm | exact (decide_eq_false (by (try simp only [hasAP] at *); omega)).symm | exact decide_eq_decide.2 (by (try simp only [hasAP] at *); omega))), S⟩
 ·
  have h6 : ¬ kind = 1 := h1
  refine RC.skip (RC.back (RC.seq (RC.seq (RC.region rfl ?_))));refine RL.mvS rfl ?_;refine RL.eS (.bin rfl rfl rfl) ?_;refine RL.mvS rfl ?_;refine RL.split 11 rfl (fun h2 => ?_) (fun h2 => ?_)
  ·
   have h11 : kind = 3 := h2
   refine RL.offs 2 rfl ?_;refine RL.eS (.pick_t rfl rfl) ?_;refine RL.nil (RC.back ?_);refine RC.cond_t rfl ?_;refine RC.seq (RC.region rfl ?_);refine RL.mvS rfl ?_;refine RL.eS (.bin rfl rfl rfl) ?_;refine RL.mvS rfl ?_;refine RL.split 17 rfl (fun h3 => ?_) (fun h3 => ?_)
   ·
    have h17 : kind = 3 := h3
    refine RL.mvS rfl ?_;refine RL.eS (.bin rfl rfl rfl) ?_;refine RL.eS (.pick_t rfl rfl) ?_;refine RL.mvS rfl ?_;refine RL.split 21 rfl (fun h4 => ?_) (fun h4 => ?_)
    ·
     have h21 := h4
     refine RL.offs 2 rfl ?_;refine RL.eS (.pick_t rfl rfl) ?_;refine RL.asS rfl ?_;refine RL.nil (RC.back ?_);refine RC.d1 4 rfl rfl rfl ?_
     exact ⟨congrArg Value.bool (by (first | exact (decide_eq_true (by (try simp only [hasAP] at *); omega)).symm | exact (decide_eq_false (by (try simp only [hasAP] at *); omega)).symm | exact decide_eq_decide.2 (by (try simp only [hasAP] at *); omega))), S⟩
    ·
     have h21 := h4
     refine RL.mvS rfl ?_;refine RL.eS (.bin rfl rfl rfl) ?_;refine RL.eS (.pick_f rfl rfl) ?_;refine RL.asS rfl ?_;refine RL.nil (RC.back ?_);refine RC.d1 4 rfl rfl rfl ?_
     exact ⟨congrArg Value.bool (by (first | exact (decide_eq_true (by (try simp only [hasAP] at *); omega)).symm | exact (decide_eq_false (by (try simp only [hasAP] at *); omega)).symm | exact decide_eq_decide.2 (by (try simp only [hasAP] at *); omega))), S⟩
   ·
    have h17 : ¬ kind = 3 := h3
    refine RL.offs 2 rfl ?_;refine RL.eS (.pick_f rfl rfl) ?_;refine RL.mvS rfl ?_;refine RL.mvS rfl ?_;refine RL.eS (.bin rfl rfl rfl) ?_;refine RL.eS (.pick_f rfl rfl) ?_;refine RL.asS rfl ?_;refine RL.nil (RC.back ?_);refine RC.d1 4 rfl rfl rfl ?_
    exact ⟨congrArg Value.bool (by (first | exact (decide_eq_true (by (try simp only [hasAP] at *); omega)).symm | exact (decide_eq_false (by (try simp only [hasAP] at *); omega)).symm | exact decide_eq_decide.2 (by (try simp only [hasAP] at *); omega))), S⟩
  ·
   have h11 : ¬ kind = 3 := h2
   refine RL.mvS rfl ?_;refine RL.eS (.bin rfl rfl rfl) ?_;refine RL.eS (.pick_f rfl rfl) ?_;refine RL.nil (RC.back ?_);refine RC.cond_dec rfl (fun h5 => ?_) (fun h5 => ?_)
   ·
    have h14 : kind = 5 := h5
    refine RC.seq (RC.region rfl ?_);refine RL.mvS rfl ?_;refine RL.eS (.bin rfl rfl rfl) ?_;refine RL.mvS rfl ?_;refine RL.split 17 rfl (fun h6 => ?_) (fun h6 => ?_)
    ·
     have h17 : kind = 3 := h6
     refine RL.mvS rfl ?_;refine RL.eS (.bin rfl rfl rfl) ?_;refine RL.eS (.pick_t rfl rfl) ?_;refine RL.mvS rfl ?_;refine RL.split 21 rfl (fun h7 => ?_) (fun h7 => ?_)
     ·
      have h21 := h7
      refine RL.offs 2 rfl ?_;refine RL.eS (.pick_t rfl rfl) ?_;refine RL.asS rfl ?_;refine RL.nil (RC.back ?_);refine RC.d1 4 rfl rfl rfl ?_
      exact ⟨congrArg Value.bool (by (first | exact (decide_eq_true (by (try simp only [hasAP] at *); omega)).symm | exact (decide_eq_false (by (try simp only [hasAP] at *); omega)).symm | exact decide_eq_decide.2 (by (try simp only [hasAP] at *); omega))), S⟩
     ·
      have h21 := h7
      refine RL.mvS rfl ?_;refine RL.eS (.bin rfl rfl rfl) ?_;refine RL.eS (.pick_f rfl rfl) ?_;refine RL.asS rfl ?_;refine RL.nil (RC.back ?_);refine RC.d1 4 rfl rfl rfl ?_
      exact ⟨congrArg Value.bool (by (first | exact (decide_eq_true (by (try simp only [hasAP] at *); omega)).symm | exact (decide_eq_false (by (try simp only [hasAP] at *); omega)).symm | exact decide_eq_decide.2 (by (try simp only [hasAP] at *); omega))), S⟩
    ·
     have h17 : ¬ kind = 3 := h6
     refine RL.offs 2 rfl ?_;refine RL.eS (.pick_f rfl rfl) ?_;refine RL.mvS rfl ?_;refine RL.mvS rfl ?_;refine RL.eS (.bin rfl rfl rfl) ?_;refine RL.eS (.pick_f rfl rfl) ?_;refine RL.asS rfl ?_;refine RL.nil (RC.back ?_);refine RC.d1 4 rfl rfl rfl ?_
     exact ⟨congrArg Value.bool (by (first | exact (decide_eq_true (by (try simp only [hasAP] at *); omega)).symm | exact (decide_eq_false (by (try simp only [hasAP] at *); omega)).symm | exact decide_eq_decide.2 (by (try simp only [hasAP] at *); omega))), S⟩
   ·
    have h14 : ¬ kind = 5 := h5
    refine RC.skip (RC.back (RC.seq (RC.region rfl ?_)));refine RL.mvS rfl ?_;refine RL.eS (.bin rfl rfl rfl) ?_;refine RL.mvS rfl ?_;refine RL.split 27 rfl (fun h8 => ?_) (fun h8 => ?_)
    ·
     have h27 : kind = 2 := h8
     refine RL.offs 2 rfl ?_;refine RL.eS (.pick_t rfl rfl) ?_;refine RL.asS rfl ?_;refine RL.nil (RC.back ?_);refine RC.d1 4 rfl rfl rfl ?_
     exact ⟨congrArg Value.bool (by (first | exact (decide_eq_true (by (try simp only [hasAP] at *); omega)).symm | exact (decide_eq_false (by (try simp only [hasAP] at *); omega)).symm | exact decide_eq_decide.2 (by (try simp only [hasAP] at *); omega))), S⟩
    ·
     have h27 : ¬ kind = 2 := h8
     refine RL.mvS rfl ?_;refine RL.eS (.bin rfl rfl rfl) ?_;refine RL.eS (.pick_f rfl rfl) ?_;refine RL.asS rfl ?_;refine RL.nil (RC.back ?_);refine RC.d1 4 rfl rfl rfl ?_
     exact ⟨congrArg Value.bool (by (first | exact (decide_eq_true (by (try simp only [hasAP] at *); omega)).symm | exact (decide_eq_false (by (try simp only [hasAP] at *); omega)).symm | exact decide_eq_decide.2 (by (try simp only [hasAP] at *); omega))), S⟩
theorem c_hasB (box kind : Int) (w : World) : FC Tryz.prog 34 [.int .i64 box, .int .i64 kind] w (Val (.bool (decide (hasBP box kind))) w) := by
 refine FC.intro Tryz.func34 rfl Tryz.ntmps34 rfl ?_
 have S := Sub.refl w
 refine RC.seq (RC.region rfl ?_);refine RL.asS rfl ?_;refine RL.nil (RC.back (RC.seq (RC.region rfl ?_)));refine RL.mvS rfl ?_;refine RL.eS (.bin rfl rfl rfl) ?_;refine RL.mvS rfl ?_;refine RL.split 7 rfl (fun h1 => ?_) (fun h1 => ?_)
 ·
  have h7 : kind = 2 := h1
  refine RL.mvS rfl ?_;refine RL.eS (.bin rfl rfl rfl) ?_;refine RL.eS (.pick_t rfl rfl) ?_;refine RL.asS rfl ?_;refine RL.nil (RC.back ?_);refine RC.d1 4 rfl rfl rfl ?_
  exact ⟨congrArg Value.bool (by (first | exact (decide_eq_true (by (try simp only [hasBP] at *); omega)).symm | exact (decide_eq_false (by (try simp only [hasBP] at *); omega)).symm | exact decide_eq_decide.2 (by (try simp only [hasBP] at *); omega))), S⟩
 ·
  have h7 : ¬ kind = 2 := h1
  refine RL.offs 2 rfl ?_;refine RL.eS (.pick_f rfl rfl) ?_;refine RL.asS rfl ?_;refine RL.nil (RC.back ?_);refine RC.d1 4 rfl rfl rfl ?_
  exact ⟨congrArg Value.bool (by (first | exact (decide_eq_true (by (try simp only [hasBP] at *); omega)).symm | exact (decide_eq_false (by (try simp only [hasBP] at *); omega)).symm | exact decide_eq_decide.2 (by (try simp only [hasBP] at *); omega))), S⟩
theorem c_within (a : Int) (w : World) : FC Tryz.prog 73 [.int .i64 a] w (Val (.bool (decide (-1073741824 ≤ a ∧ a ≤ 1073741824))) w) := by
 refine FC.intro Tryz.func73 rfl Tryz.ntmps73 rfl ?_
 have S := Sub.refl w
 refine RC.seq (RC.region rfl ?_);refine RL.asS rfl ?_;refine RL.nil (RC.back (RC.seq (RC.region rfl ?_)));refine RL.mvS rfl ?_;refine RL.eS (.bin rfl rfl rfl) ?_;refine RL.mvS rfl ?_;refine RL.split 5 rfl (fun h1 => ?_) (fun h1 => ?_)
 ·
  have h5 := h1
  refine RL.mvS rfl ?_;refine RL.eS (.bin rfl rfl rfl) ?_;refine RL.eS (.pick_t rfl rfl) ?_;refine RL.asS rfl ?_;refine RL.nil (RC.back ?_);refine RC.d1 2 rfl rfl rfl ?_
  exact ⟨congrArg Value.bool (by (first | exact (decide_eq_true (by (try simp only [hasBP] at *); omega)).symm | exact (decide_eq_false (by (try simp only [hasBP] at *); omega)).symm | exact decide_eq_decide.2 (by (try simp only [hasBP] at *); omega))), S⟩
 ·
  have h5 := h1
  refine RL.offs 2 rfl ?_;refine RL.eS (.pick_f rfl rfl) ?_;refine RL.asS rfl ?_;refine RL.nil (RC.back ?_);refine RC.d1 2 rfl rfl rfl ?_
  exact ⟨congrArg Value.bool (by (first | exact (decide_eq_true (by (try simp only [hasBP] at *); omega)).symm | exact (decide_eq_false (by (try simp only [hasBP] at *); omega)).symm | exact decide_eq_decide.2 (by (try simp only [hasBP] at *); omega))), S⟩
theorem c_ref13Right (o : OpT) (w : World) : FC Tryz.prog 11 [.agg o.cells.toArray] w (Val (.bool (decide (okP o))) w) := by
 refine FC.intro Tryz.func11 rfl Tryz.ntmps11 rfl ?_
 have S := Sub.refl w
 refine RC.seq (RC.region rfl ?_);refine RL.box rfl rfl rfl (fun b_1 w_1 e_1 z_1 hb_1 s_1 => ?_);have S := S.trans s_1
 have hb_1 : Has w_1 b_1 ([.int .i64 o.box, .int .i64 o.kind, .int .i64 o.a, .int .i64 o.b]) _ := hb_1
 refine RL.asS rfl ?_;refine RL.nil (RC.back ?_);refine RC.cutx (α := Unit) (fun _ => [(1, .pointer (some ⟨b_1, 0, none⟩))]) (fun _ w1 => kindP o.box o.kind ∧ Has w1 b_1 [.int .i64 o.box, .int .i64 o.kind, .int .i64 o.a, .int .i64 o.b] 35 ∧ Sub w w1) ?_ (fun _ w1 hJ => ?_)
 ·
  refine RC.seq (RC.region rfl ?_);refine RL.eS (.field0 fo35_0 rfl) ?_;refine RL.eS (.load1 sh3 rfl (hb_1.cell rfl)) ?_;refine RL.eS (.bin rfl rfl rfl) ?_;refine RL.mvS rfl ?_;refine RL.split 6 rfl (fun h2 => ?_) (fun h2 => ?_)
  ·
   refine RL.offs 3 rfl ?_;refine RL.eS (.pick_t rfl rfl) ?_;refine RL.mvS rfl ?_;refine RL.offs 3 rfl ?_;refine RL.eS (.pick_t rfl rfl) ?_;refine RL.mvS rfl ?_;refine RL.offs 3 rfl ?_;refine RL.eS (.pick_t rfl rfl) ?_;refine RL.mvS rfl ?_;refine RL.offs 18 rfl ?_;refine RL.eS (.pick_t rfl rfl) ?_;refine RL.nil (RC.back ?_);refine RC.cond_t rfl ?_;refine RC.seq (RC.region rfl ?_);refine RL.asS rfl ?_;refine RL.nil (RC.back ?_);refine RC.d1 2 rfl rfl rfl ?_
   exact ⟨congrArg Value.bool (by (first | exact (decide_eq_true (by (try simp only [okP, kindP, hasAP, hasBP] at *); omega)).symm | exact (decide_eq_false (by (try simp only [okP, kindP, hasAP, hasBP] at *); omega)).symm | exact decide_eq_decide.2 (by (try simp only [okP, kindP, hasAP, hasBP] at *); omega))), S⟩
  ·
   refine RL.eS (.field0 fo35_0 rfl) ?_;refine RL.eS (.load1 sh3 rfl (hb_1.cell rfl)) ?_;refine RL.eS (.bin rfl rfl rfl) ?_;refine RL.eS (.pick_f rfl rfl) ?_;refine RL.mvS rfl ?_;refine RL.split 11 rfl (fun h3 => ?_) (fun h3 => ?_)
   ·
    refine RL.offs 3 rfl ?_;refine RL.eS (.pick_t rfl rfl) ?_;refine RL.mvS rfl ?_;refine RL.offs 3 rfl ?_;refine RL.eS (.pick_t rfl rfl) ?_;refine RL.mvS rfl ?_;refine RL.offs 18 rfl ?_;refine RL.eS (.pick_t rfl rfl) ?_;refine RL.nil (RC.back ?_);refine RC.cond_t rfl ?_;refine RC.seq (RC.region rfl ?_);refine RL.asS rfl ?_;refine RL.nil (RC.back ?_);refine RC.d1 2 rfl rfl rfl ?_
    exact ⟨congrArg Value.bool (by (first | exact (decide_eq_true (by (try simp only [okP, kindP, hasAP, hasBP] at *); omega)).symm | exact (decide_eq_false (by (try simp only [okP, kindP, hasAP, hasBP] at *); omega)).symm | exact decide_eq_decide.2 (by (try simp only [okP, kindP, hasAP, hasBP] at *); omega))), S⟩
   ·
    refine RL.eS (.field0 fo35_1 rfl) ?_;refine RL.eS (.load1 sh3 rfl (hb_1.cell rfl)) ?_;refine RL.eS (.bin rfl rfl rfl) ?_;refine RL.eS (.pick_f rfl rfl) ?_;refine RL.mvS rfl ?_;refine RL.split 16 rfl (fun h4 => ?_) (fun h4 => ?_)
    ·
     refine RL.offs 3 rfl ?_;refine RL.eS (.pick_t rfl rfl) ?_;refine RL.mvS rfl ?_;refine RL.offs 18 rfl ?_;refine RL.eS (.pick_t rfl rfl) ?_;refine RL.nil (RC.back ?_);refine RC.cond_t rfl ?_;refine RC.seq (RC.region rfl ?_);refine RL.asS rfl ?_;refine RL.nil (RC.back ?_);refine RC.d1 2 rfl rfl rfl ?_
     exact ⟨congrArg Value.bool (by (first | exact (decide_eq_true (by (try simp only [okP, kindP, hasAP, hasBP] at *); omega)).symm | exact (decide_eq_false (by (try simp only [okP, kindP, hasAP, hasBP] at *); omega)).symm | exact decide_eq_decide.2 (by (try simp only [okP, kindP, hasAP, hasBP] at *); omega))), S⟩
    ·
     refine RL.eS (.field0 fo35_1 rfl) ?_;refine RL.eS (.load1 sh3 rfl (hb_1.cell rfl)) ?_;refine RL.eS (.bin rfl rfl rfl) ?_;refine RL.eS (.pick_f rfl rfl) ?_;refine RL.mvS rfl ?_;refine RL.split 21 rfl (fun h5 => ?_) (fun h5 => ?_)
     ·
      refine RL.offs 18 rfl ?_;refine RL.eS (.pick_t rfl rfl) ?_;refine RL.nil (RC.back ?_);refine RC.cond_t rfl ?_;refine RC.seq (RC.region rfl ?_);refine RL.asS rfl ?_;refine RL.nil (RC.back ?_);refine RC.d1 2 rfl rfl rfl ?_
      exact ⟨congrArg Value.bool (by (first | exact (decide_eq_true (by (try simp only [okP, kindP, hasAP, hasBP] at *); omega)).symm | exact (decide_eq_false (by (try simp only [okP, kindP, hasAP, hasBP] at *); omega)).symm | exact decide_eq_decide.2 (by (try simp only [okP, kindP, hasAP, hasBP] at *); omega))), S⟩
     ·
      refine RL.eS (.field0 fo35_0 rfl) ?_;refine RL.eS (.load1 sh3 rfl (hb_1.cell rfl)) ?_;refine RL.eS (.bin rfl rfl rfl) ?_;refine RL.mvS rfl ?_;refine RL.split 25 rfl (fun h6 => ?_) (fun h6 => ?_)
      ·
       refine RL.offs 3 rfl ?_;refine RL.eS (.pick_t rfl rfl) ?_;refine RL.mvS rfl ?_;refine RL.eS (.field0 fo35_1 rfl) ?_;refine RL.eS (.load1 sh3 rfl (hb_1.cell rfl)) ?_;refine RL.eS (.bin rfl rfl rfl) ?_;refine RL.mvS rfl ?_;refine RL.split 34 rfl (fun h7 => ?_) (fun h7 => ?_)
       ·
        refine RL.offs 3 rfl ?_;refine RL.eS (.pick_t rfl rfl) ?_;refine RL.eS (.pick_t rfl rfl) ?_;refine RL.eS (.pick_f rfl rfl) ?_;refine RL.nil (RC.back ?_);refine RC.cond_t rfl ?_;refine RC.seq (RC.region rfl ?_);refine RL.asS rfl ?_;refine RL.nil (RC.back ?_);refine RC.d1 2 rfl rfl rfl ?_
        exact ⟨congrArg Value.bool (by (first | exact (decide_eq_true (by (try simp only [okP, kindP, hasAP, hasBP] at *); omega)).symm | exact (decide_eq_false (by (try simp only [okP, kindP, hasAP, hasBP] at *); omega)).symm | exact decide_eq_decide.2 (by (try simp only [okP, kindP, hasAP, hasBP] at *); omega))), S⟩
       ·
        refine RL.eS (.field0 fo35_1 rfl) ?_;refine RL.eS (.load1 sh3 rfl (hb_1.cell rfl)) ?_;refine RL.eS (.bin rfl rfl rfl) ?_;refine RL.eS (.pick_f rfl rfl) ?_;refine RL.eS (.pick_t rfl rfl) ?_;refine RL.eS (.pick_f rfl rfl) ?_;refine RL.nil (RC.back ?_);refine RC.cond_dec rfl (fun h8 => ?_) (fun h8 => ?_)
        ·
         refine RC.seq (RC.region rfl ?_);refine RL.asS rfl ?_;refine RL.nil (RC.back ?_);refine RC.d1 2 rfl rfl rfl ?_
         exact ⟨congrArg Value.bool (by (first | exact (decide_eq_true (by (try simp only [okP, kindP, hasAP, hasBP] at *); omega)).symm | exact (decide_eq_false (by (try simp only [okP, kindP, hasAP, hasBP] at *); omega)).symm | exact decide_eq_decide.2 (by (try simp only [okP, kindP, hasAP, hasBP] at *); omega))), S⟩
        ·
         exact RC.skip (fun a ka => ⟨(), ⟨by unfold kindP; omega, hb_1, S⟩, ka.keep (keep_of (by repeat (first | exact trivial | refine And.intro rfl ?_)))⟩)
      ·
       refine RL.eS (.field0 fo35_0 rfl) ?_;refine RL.eS (.load1 sh3 rfl (hb_1.cell rfl)) ?_;refine RL.eS (.bin rfl rfl rfl) ?_;refine RL.eS (.pick_f rfl rfl) ?_;refine RL.mvS rfl ?_;refine RL.split 30 rfl (fun h9 => ?_) (fun h9 => ?_)
       ·
        refine RL.eS (.field0 fo35_1 rfl) ?_;refine RL.eS (.load1 sh3 rfl (hb_1.cell rfl)) ?_;refine RL.eS (.bin rfl rfl rfl) ?_;refine RL.mvS rfl ?_;refine RL.split 34 rfl (fun h10 => ?_) (fun h10 => ?_)
        ·
         refine RL.offs 3 rfl ?_;refine RL.eS (.pick_t rfl rfl) ?_;refine RL.eS (.pick_t rfl rfl) ?_;refine RL.eS (.pick_f rfl rfl) ?_;refine RL.nil (RC.back ?_);refine RC.cond_t rfl ?_;refine RC.seq (RC.region rfl ?_);refine RL.asS rfl ?_;refine RL.nil (RC.back ?_);refine RC.d1 2 rfl rfl rfl ?_
         exact ⟨congrArg Value.bool (by (first | exact (decide_eq_true (by (try simp only [okP, kindP, hasAP, hasBP] at *); omega)).symm | exact (decide_eq_false (by (try simp only [okP, kindP, hasAP, hasBP] at *); omega)).symm | exact decide_eq_decide.2 (by (try simp only [okP, kindP, hasAP, hasBP] at *); omega))), S⟩
        ·
         refine RL.eS (.field0 fo35_1 rfl) ?_;refine RL.eS (.load1 sh3 rfl (hb_1.cell rfl)) ?_;refine RL.eS (.bin rfl rfl rfl) ?_;refine RL.eS (.pick_f rfl rfl) ?_;refine RL.eS (.pick_t rfl rfl) ?_;refine RL.eS (.pick_f rfl rfl) ?_;refine RL.nil (RC.back ?_);refine RC.cond_dec rfl (fun h11 => ?_) (fun h11 => ?_)
         ·
          refine RC.seq (RC.region rfl ?_);refine RL.asS rfl ?_;refine RL.nil (RC.back ?_);refine RC.d1 2 rfl rfl rfl ?_
          exact ⟨congrArg Value.bool (by (first | exact (decide_eq_true (by (try simp only [okP, kindP, hasAP, hasBP] at *); omega)).symm | exact (decide_eq_false (by (try simp only [okP, kindP, hasAP, hasBP] at *); omega)).symm | exact decide_eq_decide.2 (by (try simp only [okP, kindP, hasAP, hasBP] at *); omega))), S⟩
         ·
          exact RC.skip (fun a ka => ⟨(), ⟨by unfold kindP; omega, hb_1, S⟩, ka.keep (keep_of (by repeat (first | exact trivial | refine And.intro rfl ?_)))⟩)
       ·
        refine RL.offs 8 rfl ?_;refine RL.eS (.pick_f rfl rfl) ?_;refine RL.eS (.pick_f rfl rfl) ?_;refine RL.nil (RC.back ?_);refine RC.cond_f rfl ?_
        exact RC.skip (fun a ka => ⟨(), ⟨by unfold kindP; omega, hb_1, S⟩, ka.keep (keep_of (by repeat (first | exact trivial | refine And.intro rfl ?_)))⟩)
 obtain ⟨hkp, hb_1, S⟩ := hJ
 unfold kindP at hkp
 refine RC.cutx (α := Unit) (fun _ => [(1, .pointer (some ⟨b_1, 0, none⟩))]) (fun _ w12 => kindP o.box o.kind ∧ (-1073741824 ≤ o.a ∧ o.a ≤ 1073741824 ∧ -1073741824 ≤ o.b ∧ o.b ≤ 1073741824) ∧ Has w12 b_1 [.int .i64 o.box, .int .i64 o.kind, .int .i64 o.a, .int .i64 o.b] 35 ∧ Sub w w12) ?_ (fun _ w12 hJ => ?_)
 ·
  refine RC.seq (RC.region rfl ?_);refine RL.eS (.field0 fo35_2 rfl) ?_;refine RL.eS (.load1 sh2 rfl (hb_1.cell rfl)) ?_;refine RL.eS (.bin rfl rfl rfl) ?_;refine RL.mvS rfl ?_;refine RL.split 44 rfl (fun h13 => ?_) (fun h13 => ?_)
  ·
   refine RL.offs 3 rfl ?_;refine RL.eS (.pick_t rfl rfl) ?_;refine RL.mvS rfl ?_;refine RL.offs 3 rfl ?_;refine RL.eS (.pick_t rfl rfl) ?_;refine RL.mvS rfl ?_;refine RL.offs 3 rfl ?_;refine RL.eS (.pick_t rfl rfl) ?_;refine RL.nil (RC.back ?_);refine RC.cond_t rfl ?_;refine RC.seq (RC.region rfl ?_);refine RL.asS rfl ?_;refine RL.nil (RC.back ?_);refine RC.d1 2 rfl rfl rfl ?_
   exact ⟨congrArg Value.bool (by (first | exact (decide_eq_true (by (try simp only [okP, kindP, hasAP, hasBP] at *); omega)).symm | exact (decide_eq_false (by (try simp only [okP, kindP, hasAP, hasBP] at *); omega)).symm | exact decide_eq_decide.2 (by (try simp only [okP, kindP, hasAP, hasBP] at *); omega))), S⟩
  ·
   refine RL.eS (.field0 fo35_2 rfl) ?_;refine RL.eS (.load1 sh2 rfl (hb_1.cell rfl)) ?_;refine RL.eS (.bin rfl rfl rfl) ?_;refine RL.eS (.pick_f rfl rfl) ?_;refine RL.mvS rfl ?_;refine RL.split 49 rfl (fun h14 => ?_) (fun h14 => ?_)
   ·
    refine RL.offs 3 rfl ?_;refine RL.eS (.pick_t rfl rfl) ?_;refine RL.mvS rfl ?_;refine RL.offs 3 rfl ?_;refine RL.eS (.pick_t rfl rfl) ?_;refine RL.nil (RC.back ?_);refine RC.cond_t rfl ?_;refine RC.seq (RC.region rfl ?_);refine RL.asS rfl ?_;refine RL.nil (RC.back ?_);refine RC.d1 2 rfl rfl rfl ?_
    exact ⟨congrArg Value.bool (by (first | exact (decide_eq_true (by (try simp only [okP, kindP, hasAP, hasBP] at *); omega)).symm | exact (decide_eq_false (by (try simp only [okP, kindP, hasAP, hasBP] at *); omega)).symm | exact decide_eq_decide.2 (by (try simp only [okP, kindP, hasAP, hasBP] at *); omega))), S⟩
   ·
    refine RL.eS (.field0 fo35_3 rfl) ?_;refine RL.eS (.load1 sh2 rfl (hb_1.cell rfl)) ?_;refine RL.eS (.bin rfl rfl rfl) ?_;refine RL.eS (.pick_f rfl rfl) ?_;refine RL.mvS rfl ?_;refine RL.split 54 rfl (fun h15 => ?_) (fun h15 => ?_)
    ·
     refine RL.offs 3 rfl ?_;refine RL.eS (.pick_t rfl rfl) ?_;refine RL.nil (RC.back ?_);refine RC.cond_t rfl ?_;refine RC.seq (RC.region rfl ?_);refine RL.asS rfl ?_;refine RL.nil (RC.back ?_);refine RC.d1 2 rfl rfl rfl ?_
     exact ⟨congrArg Value.bool (by (first | exact (decide_eq_true (by (try simp only [okP, kindP, hasAP, hasBP] at *); omega)).symm | exact (decide_eq_false (by (try simp only [okP, kindP, hasAP, hasBP] at *); omega)).symm | exact decide_eq_decide.2 (by (try simp only [okP, kindP, hasAP, hasBP] at *); omega))), S⟩
    ·
     refine RL.eS (.field0 fo35_3 rfl) ?_;refine RL.eS (.load1 sh2 rfl (hb_1.cell rfl)) ?_;refine RL.eS (.bin rfl rfl rfl) ?_;refine RL.eS (.pick_f rfl rfl) ?_;refine RL.nil (RC.back ?_);refine RC.cond_dec rfl (fun h16 => ?_) (fun h16 => ?_)
     ·
      refine RC.seq (RC.region rfl ?_);refine RL.asS rfl ?_;refine RL.nil (RC.back ?_);refine RC.d1 2 rfl rfl rfl ?_
      exact ⟨congrArg Value.bool (by (first | exact (decide_eq_true (by (try simp only [okP, kindP, hasAP, hasBP] at *); omega)).symm | exact (decide_eq_false (by (try simp only [okP, kindP, hasAP, hasBP] at *); omega)).symm | exact decide_eq_decide.2 (by (try simp only [okP, kindP, hasAP, hasBP] at *); omega))), S⟩
     ·
      exact RC.skip (fun a ka => ⟨(), ⟨by unfold kindP; omega, ⟨by omega, by omega, by omega, by omega⟩, hb_1, S⟩, ka.keep (keep_of (by repeat (first | exact trivial | refine And.intro rfl ?_)))⟩)
 obtain ⟨hkp, hbd, hb_1, S⟩ := hJ
 unfold kindP at hkp
 refine RC.seq (RC.region rfl ?_);refine RL.eS (.field0 fo35_0 rfl) ?_;refine RL.eS (.load1 sh3 rfl (hb_1.cell rfl)) ?_;refine RL.eS (.field0 fo35_1 rfl) ?_;refine RL.eS (.load1 sh3 rfl (hb_1.cell rfl)) ?_;refine RL.call rfl ok33 (c_hasA o.box o.kind w12) rfl rfl ?_;rintro _ w17 ⟨rfl, s18⟩;have S := S.trans s18;have hb_1 := hb_1.sub s18;refine RL.mvS rfl ?_;refine RL.split 64 rfl (fun h19 => ?_) (fun h19 => ?_)
 ·
  refine RL.offs 3 rfl ?_;refine RL.eS (.pick_t rfl rfl) ?_;refine RL.mvS rfl ?_;refine RL.eS (.field0 fo35_0 rfl) ?_;refine RL.eS (.load1 sh3 rfl (hb_1.cell rfl)) ?_;refine RL.eS (.field0 fo35_1 rfl) ?_;refine RL.eS (.load1 sh3 rfl (hb_1.cell rfl)) ?_;refine RL.call rfl ok34 (c_hasB o.box o.kind w17) rfl rfl ?_;rintro _ w20 ⟨rfl, s21⟩;have S := S.trans s21;have hb_1 := hb_1.sub s21;refine RL.mvS rfl ?_;refine RL.split 75 rfl (fun h22 => ?_) (fun h22 => ?_)
  ·
   refine RL.offs 3 rfl ?_;refine RL.eS (.pick_t rfl rfl) ?_;refine RL.eS (.pick_t rfl rfl) ?_;refine RL.asS rfl ?_;refine RL.nil (RC.back ?_);refine RC.d1 2 rfl rfl rfl ?_
   exact ⟨congrArg Value.bool (by (first | exact (decide_eq_true (by (try simp only [okP, kindP, hasAP, hasBP] at *); omega)).symm | exact (decide_eq_false (by (try simp only [okP, kindP, hasAP, hasBP] at *); omega)).symm | exact decide_eq_decide.2 (by (try simp only [okP, kindP, hasAP, hasBP] at *); omega))), S⟩
  ·
   refine RL.eS (.field0 fo35_3 rfl) ?_;refine RL.eS (.load1 sh2 rfl (hb_1.cell rfl)) ?_;refine RL.eS (.bin rfl rfl rfl) ?_;refine RL.eS (.pick_f rfl rfl) ?_;refine RL.eS (.pick_t rfl rfl) ?_;refine RL.asS rfl ?_;refine RL.nil (RC.back ?_);refine RC.d1 2 rfl rfl rfl ?_
   exact ⟨congrArg Value.bool (by (first | exact (decide_eq_true (by (try simp only [okP, kindP, hasAP, hasBP] at *); omega)).symm | exact (decide_eq_false (by (try simp only [okP, kindP, hasAP, hasBP] at *); omega)).symm | exact decide_eq_decide.2 (by (try simp only [okP, kindP, hasAP, hasBP] at *); omega))), S⟩
 ·
  refine RL.eS (.field0 fo35_2 rfl) ?_;refine RL.eS (.load1 sh2 rfl (hb_1.cell rfl)) ?_;refine RL.eS (.bin rfl rfl rfl) ?_;refine RL.eS (.pick_f rfl rfl) ?_;refine RL.mvS rfl ?_;refine RL.split 69 rfl (fun h23 => ?_) (fun h23 => ?_)
  ·
   refine RL.eS (.field0 fo35_0 rfl) ?_;refine RL.eS (.load1 sh3 rfl (hb_1.cell rfl)) ?_;refine RL.eS (.field0 fo35_1 rfl) ?_;refine RL.eS (.load1 sh3 rfl (hb_1.cell rfl)) ?_;refine RL.call rfl ok34 (c_hasB o.box o.kind w17) rfl rfl ?_;rintro _ w24 ⟨rfl, s25⟩;have S := S.trans s25;have hb_1 := hb_1.sub s25;refine RL.mvS rfl ?_;refine RL.split 75 rfl (fun h26 => ?_) (fun h26 => ?_)
   ·
    refine RL.offs 3 rfl ?_;refine RL.eS (.pick_t rfl rfl) ?_;refine RL.eS (.pick_t rfl rfl) ?_;refine RL.asS rfl ?_;refine RL.nil (RC.back ?_);refine RC.d1 2 rfl rfl rfl ?_
    exact ⟨congrArg Value.bool (by (first | exact (decide_eq_true (by (try simp only [okP, kindP, hasAP, hasBP] at *); omega)).symm | exact (decide_eq_false (by (try simp only [okP, kindP, hasAP, hasBP] at *); omega)).symm | exact decide_eq_decide.2 (by (try simp only [okP, kindP, hasAP, hasBP] at *); omega))), S⟩
   ·
    refine RL.eS (.field0 fo35_3 rfl) ?_;refine RL.eS (.load1 sh2 rfl (hb_1.cell rfl)) ?_;refine RL.eS (.bin rfl rfl rfl) ?_;refine RL.eS (.pick_f rfl rfl) ?_;refine RL.eS (.pick_t rfl rfl) ?_;refine RL.asS rfl ?_;refine RL.nil (RC.back ?_);refine RC.d1 2 rfl rfl rfl ?_
    exact ⟨congrArg Value.bool (by (first | exact (decide_eq_true (by (try simp only [okP, kindP, hasAP, hasBP] at *); omega)).symm | exact (decide_eq_false (by (try simp only [okP, kindP, hasAP, hasBP] at *); omega)).symm | exact decide_eq_decide.2 (by (try simp only [okP, kindP, hasAP, hasBP] at *); omega))), S⟩
  ·
   refine RL.offs 10 rfl ?_;refine RL.eS (.pick_f rfl rfl) ?_;refine RL.asS rfl ?_;refine RL.nil (RC.back ?_);refine RC.d1 2 rfl rfl rfl ?_
   exact ⟨congrArg Value.bool (by (first | exact (decide_eq_true (by (try simp only [okP, kindP, hasAP, hasBP] at *); omega)).symm | exact (decide_eq_false (by (try simp only [okP, kindP, hasAP, hasBP] at *); omega)).symm | exact decide_eq_decide.2 (by (try simp only [okP, kindP, hasAP, hasBP] at *); omega))), S⟩
theorem opN_spec (b k : Int) : (kindP b k ∧ ∃ n, opN b k = some (.int .i64 n) ∧ (1 ≤ n ↔ hasAP b k) ∧ (n = 2 ↔ hasBP b k)) ∨ (¬ kindP b k ∧ opN b k = none) := by
  by_cases h : kindP b k
  · refine .inl ⟨h, ?_⟩
    have h' := h
    unfold kindP at h'
    have hb : b = 1 ∨ b = 2 ∨ b = 3 ∨ b = 4 := by omega
    have hk : k = 1 ∨ k = 2 ∨ k = 3 ∨ k = 4 ∨ k = 5 ∨ k = 6 := by omega
    rcases hb with rfl | rfl | rfl | rfl <;> rcases hk with rfl | rfl | rfl | rfl | rfl | rfl <;> first | exact absurd h (by decide) | exact ⟨_, rfl, by decide, by decide⟩
  · refine .inr ⟨h, ?_⟩
    unfold opN
    rw [List.find?_eq_none.2]
    · rfl
    intro e he
    simp only [opT, List.mem_cons, List.not_mem_nil, or_false] at he
    rw [decide_eq_true_iff]
    rintro ⟨rfl, rfl⟩
    rcases he with rfl | rfl | rfl | rfl | rfl | rfl | rfl | rfl | rfl | rfl | rfl | rfl | rfl | rfl | rfl | rfl | rfl | rfl | rfl | rfl <;> exact h (by decide)
theorem opN_get (b k : Int) : ∃ n, (opN b k).getD (.int .i64 0) = .int .i64 n ∧ (opN b k).isSome = decide (kindP b k) ∧ (kindP b k → (1 ≤ n ↔ hasAP b k) ∧ (n = 2 ↔ hasBP b k)) := by
  rcases opN_spec b k with ⟨h1, n, h2, h3, h4⟩ | ⟨h1, h2⟩
  · exact ⟨n, by rw [h2]; rfl, by rw [h2, decide_eq_true h1]; rfl, fun _ => ⟨h3, h4⟩⟩
  · exact ⟨0, by rw [h2]; rfl, by rw [h2, decide_eq_false h1]; rfl, fun h => absurd h h1⟩
theorem c_opRight (o : OpT) (w : World) : FC Tryz.prog 36 [.agg o.cells.toArray] w (Val (.bool (decide (okP o))) w) := by
 obtain ⟨m, hm1, hm2, hm3⟩ := opN_get o.box o.kind
 refine FC.intro Tryz.func36 rfl Tryz.ntmps36 rfl ?_
 have S := Sub.refl w
 refine RC.seq (RC.region rfl ?_);refine RL.box rfl rfl rfl (fun b_1 w_1 e_1 z_1 hb_1 s_1 => ?_);have S := S.trans s_1
 have hb_1 : Has w_1 b_1 ([.int .i64 o.box, .int .i64 o.kind, .int .i64 o.a, .int .i64 o.b]) _ := hb_1
 refine RL.asS rfl ?_;refine RL.nil (RC.back (RC.seq ?_));refine RC.drawD (fun k => False) [] w_1.heap.size 12 rfl rfl mxo (fun w1 s2 => ?_)
 have hNN : ∀ k, ((False) ∨ w_1.heap.size ≤ k) → w.heap.size ≤ k := fun k e => e.elim (fun e => e.elim) (fun e => Nat.le_trans S.size e)
 have hN0 : ∀ k, w_1.heap.size ≤ k → w.heap.size ≤ k := fun k e => Nat.le_trans S.size e
 have ltD_b_1 := hb_1.lt;have S := S.trans s2;have hb_1 := hb_1.sub s2;refine RD.tS 1 rfl (fun w' s' => .field0 fo35_0 rfl) ?_;refine RD.tS 2 rfl (fun w' s' => .load1 sh3 rfl ((hb_1.step s' (fun e => e.elim (fun e => e.elim) (fun e => Nat.not_le.2 ltD_b_1 e))).cell rfl)) ?_;refine RD.tS 3 rfl (fun w' s' => .field0 fo35_1 rfl) ?_;refine RD.tS 4 rfl (fun w' s' => .load1 sh3 rfl ((hb_1.step s' (fun e => e.elim (fun e => e.elim) (fun e => Nat.not_le.2 ltD_b_1 e))).cell rfl)) ?_;refine RD.tS 5 rfl (fun w' s' => .buildS ze155 pl155 rfl rfl) ?_;refine RD.oneS 0 rfl ?_;refine RL.call rfl ok72 (c_numbers w1) rfl rfl ?_;rintro _ w3 ⟨s4, b6, rfl, hb6⟩;have S := S.trans s4;have hb_1 := hb_1.sub s4;refine RD.back s4.agr ?_;refine RD.oneS 6 rfl ?_;refine RL.eS (.lookupP (a := o.box) (c := o.kind) Tryz.underlying152 pair155 ze3 rfl rfl hb6) ?_;refine RD.back (Agr.refl _ _) ?_;refine RD.tS 7 rfl (fun w' s' => .move rfl) ?_;refine RD.tS 8 rfl (fun w' s' => .as (v' := .int .i64 m) (.extract rfl rfl) (by exact hm1)) ?_;refine RD.tS 9 rfl (fun w' s' => .as (v' := .bool (decide (kindP o.box o.kind))) (.extract rfl rfl) (by exact congrArg Value.bool hm2)) ?_;refine RD.tS 10 rfl (fun w' s' => .assign rfl) ?_;refine RD.tS 11 rfl (fun w' s' => .assign rfl) ?_;refine RD.done (by kernel_rfl) (RC.back ?_);refine RC.seq (RC.region rfl ?_);refine RL.mvS rfl ?_;refine RL.mvS rfl ?_;refine RL.split 16 rfl (fun h5 => ?_) (fun h5 => ?_)
 ·
  have h16 : kindP o.box o.kind := h5
  have hm3 := hm3 h16
  refine RL.eS (.field0 fo35_2 rfl) ?_;refine RL.eS (.load1 sh2 rfl (hb_1.cell rfl)) ?_;refine RL.call rfl ok73 (c_within o.a w3) rfl rfl ?_;rintro _ w6 ⟨rfl, s7⟩;have S := S.trans s7;have hb_1 := hb_1.sub s7;refine RL.eS (.pick_t rfl rfl) ?_;refine RL.mvS rfl ?_;refine RL.split 21 rfl (fun h8 => ?_) (fun h8 => ?_)
  ·
   refine RL.eS (.field0 fo35_3 rfl) ?_;refine RL.eS (.load1 sh2 rfl (hb_1.cell rfl)) ?_;refine RL.call rfl ok73 (c_within o.b w6) rfl rfl ?_;rintro _ w9 ⟨rfl, s10⟩;have S := S.trans s10;have hb_1 := hb_1.sub s10;refine RL.eS (.pick_t rfl rfl) ?_;refine RL.mvS rfl ?_;refine RL.split 26 rfl (fun h11 => ?_) (fun h11 => ?_)
   ·
    refine RL.mvS rfl ?_;refine RL.eS (.bin rfl rfl rfl) ?_;refine RL.mvS rfl ?_;refine RL.split 29 rfl (fun h12 => ?_) (fun h12 => ?_)
    ·
     refine RL.offs 3 rfl ?_;refine RL.eS (.pick_t rfl rfl) ?_;refine RL.eS (.pick_t rfl rfl) ?_;refine RL.mvS rfl ?_;refine RL.mvS rfl ?_;refine RL.eS (.bin rfl rfl rfl) ?_;refine RL.mvS rfl ?_;refine RL.split 38 rfl (fun h13 => ?_) (fun h13 => ?_)
     ·
      refine RL.offs 3 rfl ?_;refine RL.eS (.pick_t rfl rfl) ?_;refine RL.eS (.pick_t rfl rfl) ?_;refine RL.asS rfl ?_;refine RL.nil (RC.back ?_);refine RC.d1 2 rfl rfl rfl ?_
      exact ⟨congrArg Value.bool (by (first | exact (decide_eq_true (by (try simp only [okP, kindP, hasAP, hasBP] at *); omega)).symm | exact (decide_eq_false (by (try simp only [okP, kindP, hasAP, hasBP] at *); omega)).symm | exact decide_eq_decide.2 (by (try simp only [okP, kindP, hasAP, hasBP] at *); omega))), S⟩
     ·
      refine RL.eS (.field0 fo35_3 rfl) ?_;refine RL.eS (.load1 sh2 rfl (hb_1.cell rfl)) ?_;refine RL.eS (.bin rfl rfl rfl) ?_;refine RL.eS (.pick_f rfl rfl) ?_;refine RL.eS (.pick_t rfl rfl) ?_;refine RL.asS rfl ?_;refine RL.nil (RC.back ?_);refine RC.d1 2 rfl rfl rfl ?_
      exact ⟨congrArg Value.bool (by (first | exact (decide_eq_true (by (try simp only [okP, kindP, hasAP, hasBP] at *); omega)).symm | exact (decide_eq_false (by (try simp only [okP, kindP, hasAP, hasBP] at *); omega)).symm | exact decide_eq_decide.2 (by (try simp only [okP, kindP, hasAP, hasBP] at *); omega))), S⟩
    ·
     refine RL.eS (.field0 fo35_2 rfl) ?_;refine RL.eS (.load1 sh2 rfl (hb_1.cell rfl)) ?_;refine RL.eS (.bin rfl rfl rfl) ?_;refine RL.eS (.pick_f rfl rfl) ?_;refine RL.eS (.pick_t rfl rfl) ?_;refine RL.mvS rfl ?_;refine RL.split 35 rfl (fun h14 => ?_) (fun h14 => ?_)
     ·
      refine RL.mvS rfl ?_;refine RL.eS (.bin rfl rfl rfl) ?_;refine RL.mvS rfl ?_;refine RL.split 38 rfl (fun h15 => ?_) (fun h15 => ?_)
      ·
       refine RL.offs 3 rfl ?_;refine RL.eS (.pick_t rfl rfl) ?_;refine RL.eS (.pick_t rfl rfl) ?_;refine RL.asS rfl ?_;refine RL.nil (RC.back ?_);refine RC.d1 2 rfl rfl rfl ?_
       exact ⟨congrArg Value.bool (by (first | exact (decide_eq_true (by (try simp only [okP, kindP, hasAP, hasBP] at *); omega)).symm | exact (decide_eq_false (by (try simp only [okP, kindP, hasAP, hasBP] at *); omega)).symm | exact decide_eq_decide.2 (by (try simp only [okP, kindP, hasAP, hasBP] at *); omega))), S⟩
      ·
       refine RL.eS (.field0 fo35_3 rfl) ?_;refine RL.eS (.load1 sh2 rfl (hb_1.cell rfl)) ?_;refine RL.eS (.bin rfl rfl rfl) ?_;refine RL.eS (.pick_f rfl rfl) ?_;refine RL.eS (.pick_t rfl rfl) ?_;refine RL.asS rfl ?_;refine RL.nil (RC.back ?_);refine RC.d1 2 rfl rfl rfl ?_
       exact ⟨congrArg Value.bool (by (first | exact (decide_eq_true (by (try simp only [okP, kindP, hasAP, hasBP] at *); omega)).symm | exact (decide_eq_false (by (try simp only [okP, kindP, hasAP, hasBP] at *); omega)).symm | exact decide_eq_decide.2 (by (try simp only [okP, kindP, hasAP, hasBP] at *); omega))), S⟩
     ·
      refine RL.offs 7 rfl ?_;refine RL.eS (.pick_f rfl rfl) ?_;refine RL.asS rfl ?_;refine RL.nil (RC.back ?_);refine RC.d1 2 rfl rfl rfl ?_
      exact ⟨congrArg Value.bool (by (first | exact (decide_eq_true (by (try simp only [okP, kindP, hasAP, hasBP] at *); omega)).symm | exact (decide_eq_false (by (try simp only [okP, kindP, hasAP, hasBP] at *); omega)).symm | exact decide_eq_decide.2 (by (try simp only [okP, kindP, hasAP, hasBP] at *); omega))), S⟩
   ·
    refine RL.offs 7 rfl ?_;refine RL.eS (.pick_f rfl rfl) ?_;refine RL.mvS rfl ?_;refine RL.offs 7 rfl ?_;refine RL.eS (.pick_f rfl rfl) ?_;refine RL.asS rfl ?_;refine RL.nil (RC.back ?_);refine RC.d1 2 rfl rfl rfl ?_
    exact ⟨congrArg Value.bool (by (first | exact (decide_eq_true (by (try simp only [okP, kindP, hasAP, hasBP] at *); omega)).symm | exact (decide_eq_false (by (try simp only [okP, kindP, hasAP, hasBP] at *); omega)).symm | exact decide_eq_decide.2 (by (try simp only [okP, kindP, hasAP, hasBP] at *); omega))), S⟩
  ·
   refine RL.offs 3 rfl ?_;refine RL.eS (.pick_f rfl rfl) ?_;refine RL.mvS rfl ?_;refine RL.offs 7 rfl ?_;refine RL.eS (.pick_f rfl rfl) ?_;refine RL.mvS rfl ?_;refine RL.offs 7 rfl ?_;refine RL.eS (.pick_f rfl rfl) ?_;refine RL.asS rfl ?_;refine RL.nil (RC.back ?_);refine RC.d1 2 rfl rfl rfl ?_
   exact ⟨congrArg Value.bool (by (first | exact (decide_eq_true (by (try simp only [okP, kindP, hasAP, hasBP] at *); omega)).symm | exact (decide_eq_false (by (try simp only [okP, kindP, hasAP, hasBP] at *); omega)).symm | exact decide_eq_decide.2 (by (try simp only [okP, kindP, hasAP, hasBP] at *); omega))), S⟩
 ·
  have h16 : ¬ kindP o.box o.kind := h5
  refine RL.offs 3 rfl ?_;refine RL.eS (.pick_f rfl rfl) ?_;refine RL.mvS rfl ?_;refine RL.offs 3 rfl ?_;refine RL.eS (.pick_f rfl rfl) ?_;refine RL.mvS rfl ?_;refine RL.offs 7 rfl ?_;refine RL.eS (.pick_f rfl rfl) ?_;refine RL.mvS rfl ?_;refine RL.offs 7 rfl ?_;refine RL.eS (.pick_f rfl rfl) ?_;refine RL.asS rfl ?_;refine RL.nil (RC.back ?_);refine RC.d1 2 rfl rfl rfl ?_
  exact ⟨congrArg Value.bool (by (first | exact (decide_eq_true (by (try simp only [okP, kindP, hasAP, hasBP] at *); omega)).symm | exact (decide_eq_false (by (try simp only [okP, kindP, hasAP, hasBP] at *); omega)).symm | exact decide_eq_decide.2 (by (try simp only [okP, kindP, hasAP, hasBP] at *); omega))), S⟩
def cmpI (a b : Int) : Int := if a < b then -1 else if b < a then 1 else 0
def cmpIt (x y : It) : Int := if cmpI x.k y.k = 0 then cmpI x.v y.v else cmpI x.k y.k
def lessP (x y : It) : Prop := x.k < y.k ∨ x.k = y.k ∧ x.v < y.v
instance (x y : It) : Decidable (lessP x y) := by unfold lessP; infer_instance
theorem cmpI_lt {a b : Int} (h : a < b) : cmpI a b = -1 := if_pos h
theorem cmpI_gt {a b : Int} (h : b < a) : cmpI a b = 1 := by rw [cmpI, if_neg (by omega), if_pos h]
theorem cmpI_eq {a b : Int} (h : a = b) : cmpI a b = 0 := by rw [cmpI, if_neg (by omega), if_neg (by omega)]
theorem cmpI_cases (a b : Int) : (a < b ∧ cmpI a b = -1) ∨ (b < a ∧ cmpI a b = 1) ∨ (a = b ∧ cmpI a b = 0) := by
  rcases Int.lt_trichotomy a b with h | h | h
  · exact .inl ⟨h, cmpI_lt h⟩
  · exact .inr (.inr ⟨h, cmpI_eq h⟩)
  · exact .inr (.inl ⟨h, cmpI_gt h⟩)
theorem cmpIt_cases (x y : It) : (lessP x y ∧ cmpIt x y = -1) ∨ (lessP y x ∧ cmpIt x y = 1) ∨ (x = y ∧ cmpIt x y = 0) := by
  unfold lessP cmpIt
  rcases cmpI_cases x.k y.k with ⟨h, e⟩ | ⟨h, e⟩ | ⟨h, e⟩ <;> rw [e]
  · exact .inl ⟨.inl h, rfl⟩
  · exact .inr (.inl ⟨.inl h, rfl⟩)
  · rw [if_pos rfl]
    rcases cmpI_cases x.v y.v with ⟨h2, e2⟩ | ⟨h2, e2⟩ | ⟨h2, e2⟩ <;> rw [e2]
    · exact .inl ⟨.inr ⟨h, h2⟩, rfl⟩
    · exact .inr (.inl ⟨.inr ⟨h.symm, h2⟩, rfl⟩)
    · refine .inr (.inr ⟨?_, rfl⟩); cases x; cases y; simp_all
theorem c_isNaN (a : Int) (w : World) : FC Tryz.prog 107 [.int .i64 a] w (Val (.bool false) w) := by
 refine FC.intro Tryz.func107 rfl Tryz.ntmps107 rfl ?_
 have S := Sub.refl w
 refine RC.seq (RC.region rfl ?_);refine RL.asS rfl ?_;refine RL.nil (RC.back (RC.seq (RC.region rfl ?_)));refine RL.mvS rfl ?_;refine RL.mvS rfl ?_;refine RL.eS (.as (v' := .bool false) (.bin rfl rfl rfl) (congrArg Value.bool (decide_eq_false (fun h => h rfl)))) ?_;refine RL.asS rfl ?_;refine RL.nil (RC.back ?_);refine RC.d1 2 rfl rfl rfl ?_
 exact ⟨rfl, S⟩
theorem c_compare (a b : Int) (w : World) : FC Tryz.prog 49 [.int .i64 a, .int .i64 b] w (Val (.int .i64 (cmpI a b)) w) := by
 refine FC.intro Tryz.func49 rfl Tryz.ntmps49 rfl ?_
 have S := Sub.refl w
 refine RC.seq (RC.region rfl ?_);refine RL.asS rfl ?_;refine RL.nil (RC.back (RC.seq (RC.region rfl ?_)));refine RL.mvS rfl ?_;refine RL.call rfl ok107 (c_isNaN a w) rfl rfl ?_;rintro _ w1 ⟨rfl, s2⟩;have S := S.trans s2;refine RL.asS rfl ?_;refine RL.nil (RC.back (RC.seq (RC.region rfl ?_)));refine RL.mvS rfl ?_;refine RL.call rfl ok107 (c_isNaN b w1) rfl rfl ?_;rintro _ w3 ⟨rfl, s4⟩;have S := S.trans s4;refine RL.asS rfl ?_;refine RL.nil (RC.back (RC.seq (RC.seq (RC.region rfl ?_))));refine RL.mvS rfl ?_;refine RL.nil (RC.back ?_);refine RC.cond_f rfl ?_;refine RC.skip (RC.back (RC.seq (RC.seq (RC.region rfl ?_))));refine RL.mvS rfl ?_;refine RL.nil (RC.back ?_);refine RC.cond_f rfl ?_;refine RC.skip (RC.back (RC.seq (RC.seq (RC.region rfl ?_))));refine RL.mvS rfl ?_;refine RL.mvS rfl ?_;refine RL.eS (.bin rfl rfl rfl) ?_;refine RL.nil (RC.back ?_);refine RC.cond_dec rfl (fun h5 => ?_) (fun h5 => ?_)
 ·
  have h16 : a < b := h5
  refine RC.seq (RC.region rfl ?_);refine RL.asS rfl ?_;refine RL.nil (RC.back ?_);refine RC.d1 4 rfl rfl rfl ?_
  rw [cmpI_lt h16]
  exact ⟨rfl, S⟩
 ·
  have h16 : ¬ a < b := h5
  refine RC.skip (RC.back (RC.seq (RC.seq (RC.region rfl ?_))));refine RL.mvS rfl ?_;refine RL.mvS rfl ?_;refine RL.eS (.bin rfl rfl rfl) ?_;refine RL.nil (RC.back ?_);refine RC.cond_dec rfl (fun h6 => ?_) (fun h6 => ?_)
  ·
   have h19 : b < a := h6
   refine RC.seq (RC.region rfl ?_);refine RL.asS rfl ?_;refine RL.nil (RC.back ?_);refine RC.d1 4 rfl rfl rfl ?_
   rw [cmpI_gt h19]
   exact ⟨rfl, S⟩
  ·
   have h19 : ¬ b < a := h6
   refine RC.skip (RC.back (RC.seq (RC.region rfl ?_)));refine RL.asS rfl ?_;refine RL.nil (RC.back ?_);refine RC.d1 4 rfl rfl rfl ?_
   rw [cmpI_eq (by omega)]
   exact ⟨rfl, S⟩
theorem c_or (x y : Int) (a : Option Addr) (c m : Nat) (hm : m = 2) (w : World) (hl : Sl w a 1 ([x, y].map fun x => [i6 x])) : FC Tryz.prog 171 [.slice a m c] w (Val (.int .i64 (if x = 0 then y else x)) w) := by
 subst hm
 refine FC.intro Tryz.func171 rfl Tryz.ntmps171 rfl ?_
 have S := Sub.refl w
 refine RC.seq (RC.region rfl ?_);refine RL.asS rfl ?_;refine RL.nil (RC.back (RC.seq (RC.region rfl ?_)));refine RL.asS rfl ?_;refine RL.nil (RC.back (RC.seq (RC.seq (RC.region rfl ?_))));refine RL.mvS rfl ?_;refine RL.eS (.len sl24 rfl) ?_;refine RL.mvS rfl ?_;refine RL.nil (RC.back (RC.block ?_));refine RC.loop (α := Nat) (fun i => [(3, .int .i64 0), (6, .slice a 2 c), (7, .int .i64 2), (8, .int .i64 (i : Int))]) (fun i w1 => (i ≤ 2 ∧ (1 ≤ i → x = 0) ∧ (2 ≤ i → y = 0)) ∧ Sub w w1) (fun i => 2 - i) 0 (keep_of (by repeat (first | exact trivial | refine And.intro rfl ?_))) (⟨⟨by omega, fun (h : 1 ≤ 0) => absurd h (by decide), fun (h : 2 ≤ 0) => absurd h (by decide)⟩, S⟩) (fun i w1 hJ => ?_)
 obtain ⟨⟨hi, hp1, hp2⟩, S⟩ := hJ
 refine RC.seq (RC.region rfl ?_);refine RL.eS (.bin rfl rfl rfl) ?_;refine RL.nil (RC.back (RC.seq ?_));refine RC.cond_dec rfl (fun h2 => ?_) (fun h2 => ?_)
 ·
  obtain ⟨z, hz⟩ := getSome (l := [x, y]) (i := i) (by show i < 2; omega)
  have hzz : (i = 0 ∧ z = x) ∨ (i = 1 ∧ z = y) := (by have hi2 : i = 0 ∨ i = 1 := (by omega); rcases hi2 with rfl | rfl; exact .inl ⟨rfl, by simpa using hz.symm⟩; exact .inr ⟨rfl, by simpa using hz.symm⟩)
  refine RC.skip (RC.back (RC.seq (RC.block (RC.seq (RC.region rfl ?_)))));refine RL.eS (.indexS sl24 rfl rfl (by omega) (hl.is (i := 0) (by simp only [List.length_map, List.length_cons, List.length_nil]; omega))) ?_;refine RL.eS (.load1 sh3 rfl ((hl.sub S).one (enc := i6) (i := i) hz)) ?_;refine RL.asS rfl ?_;refine RL.nil (RC.back (RC.seq (RC.region rfl ?_)));refine RL.mvS rfl ?_;refine RL.mvS rfl ?_;refine RL.eS (.bin rfl rfl rfl) ?_;refine RL.nil (RC.back ?_);refine RC.cond_dec rfl (fun h3 => ?_) (fun h3 => ?_)
  ·
   have h14 : ¬ z = 0 := h3
   refine RC.seq (RC.region rfl ?_);refine RL.mvS rfl ?_;refine RL.asS rfl ?_;refine RL.nil (RC.back ?_);refine RC.d1 2 rfl rfl rfl ?_
   rcases hzz with ⟨e, rfl⟩ | ⟨e, rfl⟩
   rw [if_neg h14]
   exact ⟨rfl, S⟩
   rw [if_pos (hp1 (by omega))]
   exact ⟨rfl, S⟩
  ·
   have h14 : z = 0 := Decidable.not_not.1 h3
   refine RC.skip (RC.back (RC.region rfl ?_));refine RL.eS (.as (.bin rfl rfl rfl) (wi64 (y := ((i + 1 : Nat) : Int)) (by omega) (by omega))) ?_;refine RL.mvS rfl ?_
   exact RL.nil (fun a ka => ⟨i + 1, ⟨⟨by omega, fun _ => by rcases hzz with ⟨e, e2⟩ | ⟨e, e2⟩; rw [← e2]; exact h14; exact hp1 (by omega), fun _ => by rcases hzz with ⟨e, e2⟩ | ⟨e, e2⟩; omega; rw [← e2]; exact h14⟩, S⟩, by omega, ka.keep (keep_of (by repeat (first | exact trivial | refine And.intro rfl ?_)))⟩)
 ·
  have hx0 := hp1 (by omega)
  have hy0 := hp2 (by omega)
  refine RC.exit rfl (RC.back (RC.seq (RC.region rfl ?_)));refine RL.mvS rfl ?_;refine RL.asS rfl ?_;refine RL.nil (RC.back ?_);refine RC.d1 2 rfl rfl rfl ?_
  rw [if_pos hx0, hy0]
  exact ⟨rfl, S⟩
theorem it_eqL (x y : It) : eqL x.cells y.cells = decide (x = y) := by
  cases x; cases y
  rw [Bool.eq_iff_iff, decide_eq_true_iff]
  simp [It.cells, eqL, eq1]
theorem c_equal (l m : List It) (a b : Option Addr) (c d n k : Nat) (hn : n = l.length) (hk : k = m.length) (w : World) (hl : Sl w a 2 (l.map It.cells)) (hm : Sl w b 2 (m.map It.cells)) (hb : l.length ≤ 1000000) :
  FC Tryz.prog 94 [.slice a n c, .slice b k d] w (Val (.bool (decide (l = m))) w) := by
 subst hn hk
 refine FC.intro Tryz.func94 rfl Tryz.ntmps94 rfl ?_
 have S := Sub.refl w
 refine RC.seq (RC.region rfl ?_);refine RL.asS rfl ?_;refine RL.nil (RC.back (RC.seq (RC.seq (RC.region rfl ?_))));refine RL.mvS rfl ?_;refine RL.eS (.len sl42 rfl) ?_;refine RL.mvS rfl ?_;refine RL.eS (.len sl42 rfl) ?_;refine RL.eS (.bin rfl rfl rfl) ?_;refine RL.nil (RC.back ?_);refine RC.cond_dec rfl (fun h1 => ?_) (fun h1 => ?_)
 ·
  have hno : ¬ l = m := (fun e => h1 (by rw [e]))
  refine RC.seq (RC.region rfl ?_);refine RL.asS rfl ?_;refine RL.nil (RC.back ?_);refine RC.d1 4 rfl rfl rfl ?_
  rw [decide_eq_false hno]
  exact ⟨rfl, S⟩
 ·
  have h10 : l.length = m.length := (by omega)
  refine RC.skip (RC.back (RC.seq (RC.seq (RC.region rfl ?_))));refine RL.mvS rfl ?_;refine RL.eS (.len sl42 rfl) ?_;refine RL.mvS rfl ?_;refine RL.nil (RC.back (RC.block ?_));refine RC.loop (α := Nat) (fun i => [(0, .slice a l.length c), (1, .slice b m.length d), (12, .int .i64 (l.length : Int)), (13, .int .i64 (i : Int))]) (fun i w2 => (i ≤ l.length ∧ l.take i = m.take i) ∧ Sub w w2) (fun i => l.length - i) 0 (keep_of (by repeat (first | exact trivial | refine And.intro rfl ?_))) (⟨⟨Nat.zero_le _, rfl⟩, S⟩) (fun i w2 hJ => ?_)
  obtain ⟨⟨hi, hp⟩, S⟩ := hJ
  refine RC.seq (RC.region rfl ?_);refine RL.eS (.bin rfl rfl rfl) ?_;refine RL.nil (RC.back (RC.seq ?_));refine RC.cond_dec rfl (fun h3 => ?_) (fun h3 => ?_)
  ·
   obtain ⟨x, hx⟩ := getSome (l := l) (i := i) (by omega)
   obtain ⟨y, hy⟩ := getSome (l := m) (i := i) (by omega)
   refine RC.skip (RC.back (RC.seq (RC.block (RC.seq (RC.region rfl ?_)))));refine RL.mvS rfl ?_;refine RL.asS rfl ?_;refine RL.nil (RC.back (RC.seq ?_));refine RC.draw rfl mxo (by kernel_rfl) ?_;refine RQ.ev (.move rfl) rfl rfl ?_;refine RQ.ev (.move rfl) rfl rfl ?_;refine RQ.ev (.indexS sl42 rfl rfl (by omega) (hl.is (i := 0) (by simp only [List.length_map, List.length_cons, List.length_nil]; omega))) rfl rfl ?_;refine RQ.ev (.loadR (x.cells) sh51 rfl ((hl.sub S).rowAt (enc := It.cells) (i := i) hx) rfl) rfl rfl ?_;refine RQ.ev (.move rfl) rfl rfl ?_;refine RQ.ev (.move rfl) rfl rfl ?_;refine RQ.ev (.indexS sl42 rfl rfl (by omega) (hm.is (i := 0) (by simp only [List.length_map, List.length_cons, List.length_nil]; omega))) rfl rfl ?_;refine RQ.ev (.loadR (y.cells) sh51 rfl ((hm.sub S).rowAt (enc := It.cells) (i := i) hy) rfl) rfl rfl ?_;refine RQ.ev (.neS (xs := x.cells) (ys := y.cells) fk51 eg51 sh51 rfl rfl rfl rfl rfl) rfl rfl ?_;refine RQ.nil (fun w4 s5 => RC.back ?_);have S := S.trans s5;refine RC.cond rfl (fun h6 => ?_) (fun h6 => ?_)
   ·
    have hne : ¬ l = m := (fun e => by rw [← e, hx] at hy; cases hy; have q := h6; rw [it_eqL] at q; simp at q)
    refine RC.seq (RC.region rfl ?_);refine RL.asS rfl ?_;refine RL.nil (RC.back ?_);refine RC.d1 4 rfl rfl rfl ?_
    rw [decide_eq_false hne]
    exact ⟨rfl, S⟩
   ·
    have hxy : x = y := (by have q := h6; rw [it_eqL] at q; simpa using q)
    refine RC.skip (RC.back (RC.region rfl ?_));refine RL.eS (.as (.bin rfl rfl rfl) (wi64 (y := ((i + 1 : Nat) : Int)) (by omega) (by omega))) ?_;refine RL.mvS rfl ?_
    exact RL.nil (fun a ka => ⟨i + 1, ⟨⟨by omega, by rw [List.take_add_one, List.take_add_one, hp, hx, hy, hxy]⟩, S⟩, by omega, ka.keep (keep_of (by repeat (first | exact trivial | refine And.intro rfl ?_)))⟩)
  ·
   have hyes : l = m := (by rw [show i = l.length by omega, List.take_length] at hp; rw [hp, h10, List.take_length])
   refine RC.exit rfl (RC.back (RC.seq (RC.region rfl ?_)));refine RL.asS rfl ?_;refine RL.nil (RC.back ?_);refine RC.d1 4 rfl rfl rfl ?_
   rw [decide_eq_true hyes]
   exact ⟨rfl, S⟩
theorem c_equal11 (l m : List Int) (a b : Option Addr) (c d n k : Nat) (hn : n = l.length) (hk : k = m.length) (w : World) (hl : Sl w a 1 (l.map fun x => [i6 x])) (hm : Sl w b 1 (m.map fun x => [i6 x])) (hb : l.length ≤ 1000000) :
  FC Tryz.prog 95 [.slice a n c, .slice b k d] w (Val (.bool (decide (l = m))) w) := by
 subst hn hk
 refine FC.intro Tryz.func95 rfl Tryz.ntmps95 rfl ?_
 have S := Sub.refl w
 refine RC.seq (RC.region rfl ?_);refine RL.asS rfl ?_;refine RL.nil (RC.back (RC.seq (RC.seq (RC.region rfl ?_))));refine RL.mvS rfl ?_;refine RL.eS (.len sl43 rfl) ?_;refine RL.mvS rfl ?_;refine RL.eS (.len sl43 rfl) ?_;refine RL.eS (.bin rfl rfl rfl) ?_;refine RL.nil (RC.back ?_);refine RC.cond_dec rfl (fun h1 => ?_) (fun h1 => ?_)
 ·
  have hno : ¬ l = m := (fun e => h1 (by rw [e]))
  refine RC.seq (RC.region rfl ?_);refine RL.asS rfl ?_;refine RL.nil (RC.back ?_);refine RC.d1 4 rfl rfl rfl ?_
  rw [decide_eq_false hno]
  exact ⟨rfl, S⟩
 ·
  have h10 : l.length = m.length := (by omega)
  refine RC.skip (RC.back (RC.seq (RC.seq (RC.region rfl ?_))));refine RL.mvS rfl ?_;refine RL.eS (.len sl43 rfl) ?_;refine RL.mvS rfl ?_;refine RL.nil (RC.back (RC.block ?_));refine RC.loop (α := Nat) (fun i => [(0, .slice a l.length c), (1, .slice b m.length d), (12, .int .i64 (l.length : Int)), (13, .int .i64 (i : Int))]) (fun i w2 => (i ≤ l.length ∧ l.take i = m.take i) ∧ Sub w w2) (fun i => l.length - i) 0 (keep_of (by repeat (first | exact trivial | refine And.intro rfl ?_))) (⟨⟨Nat.zero_le _, rfl⟩, S⟩) (fun i w2 hJ => ?_)
  obtain ⟨⟨hi, hp⟩, S⟩ := hJ
  refine RC.seq (RC.region rfl ?_);refine RL.eS (.bin rfl rfl rfl) ?_;refine RL.nil (RC.back (RC.seq ?_));refine RC.cond_dec rfl (fun h3 => ?_) (fun h3 => ?_)
  ·
   obtain ⟨x, hx⟩ := getSome (l := l) (i := i) (by omega)
   obtain ⟨y, hy⟩ := getSome (l := m) (i := i) (by omega)
   refine RC.skip (RC.back (RC.seq (RC.block (RC.seq (RC.region rfl ?_)))));refine RL.mvS rfl ?_;refine RL.asS rfl ?_;refine RL.nil (RC.back (RC.seq ?_));refine RC.draw rfl mxo (by kernel_rfl) ?_;refine RQ.ev (.move rfl) rfl rfl ?_;refine RQ.ev (.move rfl) rfl rfl ?_;refine RQ.ev (.indexS sl43 rfl rfl (by omega) (hl.is (i := 0) (by simp only [List.length_map, List.length_cons, List.length_nil]; omega))) rfl rfl ?_;refine RQ.ev (.load1 sh2 rfl ((hl.sub S).one (enc := i6) (i := i) hx)) rfl rfl ?_;refine RQ.ev (.move rfl) rfl rfl ?_;refine RQ.ev (.move rfl) rfl rfl ?_;refine RQ.ev (.indexS sl43 rfl rfl (by omega) (hm.is (i := 0) (by simp only [List.length_map, List.length_cons, List.length_nil]; omega))) rfl rfl ?_;refine RQ.ev (.load1 sh2 rfl ((hm.sub S).one (enc := i6) (i := i) hy)) rfl rfl ?_;refine RQ.ev (.bin rfl rfl rfl) rfl rfl ?_;refine RQ.nil (fun w4 s5 => RC.back ?_);have S := S.trans s5;refine RC.cond_dec rfl (fun h6 => ?_) (fun h6 => ?_)
   ·
    have hne : ¬ l = m := (fun e => by rw [← e, hx] at hy; cases hy; exact h6 rfl)
    refine RC.seq (RC.region rfl ?_);refine RL.asS rfl ?_;refine RL.nil (RC.back ?_);refine RC.d1 4 rfl rfl rfl ?_
    rw [decide_eq_false hne]
    exact ⟨rfl, S⟩
   ·
    have hxy : x = y := Decidable.not_not.1 h6
    refine RC.skip (RC.back (RC.region rfl ?_));refine RL.eS (.as (.bin rfl rfl rfl) (wi64 (y := ((i + 1 : Nat) : Int)) (by omega) (by omega))) ?_;refine RL.mvS rfl ?_
    exact RL.nil (fun a ka => ⟨i + 1, ⟨⟨by omega, by rw [List.take_add_one, List.take_add_one, hp, hx, hy, hxy]⟩, S⟩, by omega, ka.keep (keep_of (by repeat (first | exact trivial | refine And.intro rfl ?_)))⟩)
  ·
   have hyes : l = m := (by rw [show i = l.length by omega, List.take_length] at hp; rw [hp, h10, List.take_length])
   refine RC.exit rfl (RC.back (RC.seq (RC.region rfl ?_)));refine RL.asS rfl ?_;refine RL.nil (RC.back ?_);refine RC.d1 4 rfl rfl rfl ?_
   rw [decide_eq_true hyes]
   exact ⟨rfl, S⟩
structure Mo where
  map : List It
  tab : List It
  row : List Int
  heap : List It
structure Ph where
  a1 : Option Addr
  c1 : Nat
  a2 : Option Addr
  c2 : Nat
  a3 : Option Addr
  c3 : Nat
  a4 : Option Addr
  c4 : Nat
def moC (p : Ph) (m : Mo) : List Value := [.slice p.a1 m.map.length p.c1, .slice p.a2 m.tab.length p.c2, .slice p.a3 m.row.length p.c3, .slice p.a4 m.heap.length p.c4]
def moV (p : Ph) (m : Mo) : Value := .agg (moC p m).toArray
structure MoR (w : World) (p : Ph) (m : Mo) : Prop where
  h1 : Sl w p.a1 2 (m.map.map It.cells)
  h2 : Sl w p.a2 2 (m.tab.map It.cells)
  h3 : Sl w p.a3 1 (m.row.map fun x => [i6 x])
  h4 : Sl w p.a4 2 (m.heap.map It.cells)
structure MoS (p : Ph) (m : Mo) : Prop where
  k1 : m.map.length ≤ p.c1
  k2 : m.tab.length ≤ p.c2
  k3 : m.row.length ≤ p.c3
  k4 : m.heap.length ≤ p.c4
  l1 : m.map.length ≤ 1000
  l2 : m.tab.length ≤ 1000
  l3 : m.row.length ≤ 1000
  l4 : m.heap.length ≤ 1000
theorem MoR.sub {w w' : World} {p : Ph} {m : Mo} (h : MoR w p m) (s : Sub w w') : MoR w' p m := ⟨h.h1.sub s, h.h2.sub s, h.h3.sub s, h.h4.sub s⟩
def upB (x y : It) : Bool := decide (x.k < y.k)
def layF : Nat → List Node → Nat → List It → List Node × Int
  | 0, ns, _, _ => (ns, 0)
  | k + 1, ns, at_, l => if topL l < 0 then (ns, 0) else
    ((layF k (layF k ns (at_ + 1) (l.take (topL l).toNat)).1 (at_ + 1 + (topL l).toNat) (l.drop ((topL l).toNat + 1))).1.set at_
      (tNode 0 (l.getD (topL l).toNat it0).k (l.getD (topL l).toNat it0).v l.length (layF k ns (at_ + 1) (l.take (topL l).toNat)).2 (layF k (layF k ns (at_ + 1) (l.take (topL l).toNat)).1 (at_ + 1 + (topL l).toNat) (l.drop ((topL l).toNat + 1))).2), (at_ : Int) + 1)
def buildA (size : Nat) (l : List It) : Ar := ⟨(layF (l.length + 1) (List.replicate size (bareN 0)) 0 l).1, freeB size (size - l.length)⟩
theorem sizeA_isT {A : Ar} {r : Int} {l : List It} (h : IsT A r l) : sizeA A r = l.length := by
  unfold sizeA
  cases hg : getA A r with
  | none => rw [h.size.1 hg]; rfl
  | some y => exact h.size.2 y hg
def downF {σ : Type} (A : Ar) (step : σ → Node → Int → σ × Int) : Nat → Int → σ → σ
  | 0, _, s => s
  | k + 1, r, s => match getA A r with
    | none => s
    | some x => if (step s x (sizeA A x.k0)).2 = 0 then downF A step k x.k0 (step s x (sizeA A x.k0)).1 else if (step s x (sizeA A x.k0)).2 = 1 then downF A step k x.k1 (step s x (sizeA A x.k0)).1 else (step s x (sizeA A x.k0)).1
section
variable {σ : Type} {A : Ar} {step : σ → Node → Int → σ × Int} {k : Nat} {r : Int} {s : σ} {x : Node}
theorem downF_none (h : getA A r = none) : downF A step k r s = s := by
  cases k with
  | zero => rfl
  | succ k => rw [downF, h]
theorem downF_l (h : getA A r = some x) (hq : (step s x (sizeA A x.k0)).2 = 0) : downF A step (k + 1) r s = downF A step k x.k0 (step s x (sizeA A x.k0)).1 := by rw [downF, h]; exact if_pos hq
theorem downF_r (h : getA A r = some x) (hq : (step s x (sizeA A x.k0)).2 = 1) : downF A step (k + 1) r s = downF A step k x.k1 (step s x (sizeA A x.k0)).1 := by
  rw [downF, h]; simp only []; rw [if_neg (by omega), if_pos hq]
theorem downF_stop (h : getA A r = some x) (hq : ¬ (step s x (sizeA A x.k0)).2 = 0 ∧ ¬ (step s x (sizeA A x.k0)).2 = 1) : downF A step (k + 1) r s = (step s x (sizeA A x.k0)).1 := by
  rw [downF, h]; simp only []; rw [if_neg hq.1, if_neg hq.2]
end
def stSize (s : Int) (n : Node) (left : Int) : Int × Int := (n.s, -1)
theorem down_size {A : Ar} {r : Int} {l : List It} (h : IsT A r l) {k : Nat} (hk : l.length < k) : downF A stSize k r 0 = l.length := by
  cases h with
  | nil => rw [downF_none (getA_0 A)]; rfl
  | node h1 h2 h3 h4 h5 =>
    cases k with
    | zero => omega
    | succ k =>
      rw [downF_stop h1 ⟨by simp [stSize], by simp [stSize]⟩]
      simp [stSize, tNode]
      try omega
theorem Ft.has {w : World} {b : Nat} {cs : List Value} {e : TypeId} (h : Has w b cs e) : Ft (· = b) (fun u => Has u b cs e) w := ⟨fun k e => e ▸ h.lt, fun u a => h.step a (fun hn => hn rfl)⟩
def Tells {σ : Type} (f : FuncId) (cs : List Value) (C : Nat → Prop) (I : σ → World → Prop) (step : σ → Node → Int → σ × Int) : Prop :=
  ∀ (s : σ) (x : Node) (left : Int) (w : World), x.ok → 0 ≤ left → left ≤ 1000 → Ft C (I s) w → FC Tryz.prog f ([x.val, .int .i64 left] ++ cs) w (fun v w' => v = .int .i64 (step s x left).2 ∧ Ft C (I (step s x left).1) w' ∧ Agr C w w')
theorem sizeA_rng {A : Ar} {r : Int} {l : List It} (h : IsT A r l) (hl : l.length ≤ 1000) : 0 ≤ sizeA A r ∧ sizeA A r ≤ 1000 := by rw [sizeA_isT h]; omega
theorem getV_s (A : Ar) (r : Int) : ∃ (y : Node) (e : Int), getV A r = .tuple #[y.val, .int .i64 e] ∧ y.s = sizeA A r ∧ (∀ x, getA A r = some x → y = x) := by
  unfold sizeA
  cases h : getA A r with
  | none => exact ⟨bareN 0, 4, getV_no h, rfl, fun x h => (by cases h)⟩
  | some x => exact ⟨x, 0, getV_yes h, rfl, fun y h => (by cases h; rfl)⟩
set_option maxHeartbeats 2000000 in
theorem c_down {σ : Type} (f : FuncId) (hf : calleeOK Tryz.prog f = true) (cs : List Value) (C : Nat → Prop) (I : σ → World → Prop) (step : σ → Node → Int → σ × Int) (hT : Tells f cs C I step)
  (A : Ar) (na fa : Option Addr) (nc fc : Nat) (r : Int) (hr : U64 r) (s0 : σ) (M : Nat → Prop) (w : World) (hA : Ft M (fun u => ArR u na fa A) w) (hMC : ∀ k, M k → ¬ C k) (hS : Ft C (I s0) w) :
  FC Tryz.prog 68 [arV na fa nc fc A, .int .u64 r, .func (.func f) #[] cs.toArray] w (fun v w' => Agr C w w' ∧ (¬ isMap A r ∧ v = .int .i64 1 ∧ Ft C (I s0) w' ∨ isMap A r ∧ v = .int .i64 0 ∧ Ft C (I (downF A step 201 r s0)) w')) := by
 have hCw : ∀ k, C k → k < w.heap.size := hS.lt
 have hnok := hA.now.nok
 refine FC.intro Tryz.func68 rfl Tryz.ntmps68 rfl ?_
 have G : Agr C w w := Agr.refl _ _
 refine RC.seq (RC.region rfl ?_);refine RL.box rfl rfl rfl (fun b_3 w_3 e_3 z_3 hb_3 s_3 => ?_)
 have geG_3 := agLe G e_3
 have G := G.trans s_3.agr;have hA := hA.sub s_3;have hS := hS.sub s_3
 have hb_3 : Has w_3 b_3 ([.slice na A.nodes.length nc, .slice fa A.free.length fc]) _ := hb_3
 refine RL.asS rfl ?_;refine RL.nil (RC.back (RC.seq (RC.seq (RC.region rfl ?_))));refine RL.eS (.loadR ([.slice na A.nodes.length nc, .slice fa A.free.length fc]) sh26 rfl hb_3.row rfl) ?_;refine RL.mvS rfl ?_;refine RL.call rfl ok54 (c_tRight A na fa nc fc r hr w_3 hA.now) rfl rfl ?_;rintro _ w1 ⟨rfl, s2⟩;have G := G.trans s2.agr;have hA := hA.sub s2;have hS := hS.sub s2;have hb_3 := hb_3.sub s2;refine RL.eS (.not rfl) ?_;refine RL.nil (RC.back ?_);refine RC.cond rfl (fun h3 => ?_) (fun h3 => ?_)
 ·
  have hno : ¬ isMap A r := (fun h => by have h2 := h3; rw [isMapB_yes h] at h2; cases h2)
  refine RC.seq (RC.region rfl ?_);refine RL.asS rfl ?_;refine RL.nil (RC.back ?_);refine RC.d1 6 rfl rfl rfl ?_
  exact ⟨G, .inl ⟨hno, rfl, hS⟩⟩
 ·
  have hmb : isMapB A r = true := (by simpa using h3)
  have hmap : isMap A r := (isMapB_iff A r).1 (by simpa using h3)
  obtain ⟨_, l0, hl0, hll0⟩ := hmap
  have geb := geG_3
  have hC3 : ¬ C b_3 := fun e => by have := hCw _ e; omega
  refine RC.skip (RC.back (RC.seq (RC.block ?_)));refine RC.loop (α := Nat × Int × σ) (fun x => [(1, .int .u64 x.2.1), (2, .func (.func f) #[] cs.toArray), (3, .pointer (some ⟨b_3, 0, none⟩))]) (fun x w4 => (U64 x.2.1 ∧ (∃ l, IsT A x.2.1 l ∧ l.length < x.1 ∧ l.length ≤ 200) ∧ downF A step 201 r s0 = downF A step x.1 x.2.1 x.2.2) ∧ Has w4 b_3 [.slice na A.nodes.length nc, .slice fa A.free.length fc] 26 ∧ Ft M (fun u => ArR u na fa A) w4 ∧ Ft C (I x.2.2) w4 ∧ Agr C w w4) (fun x => x.1) (201, r, s0) (keep_of (by repeat (first | exact trivial | refine And.intro rfl ?_))) (⟨⟨hr, ⟨l0, hl0, Nat.lt_succ_of_le hll0, hll0⟩, rfl⟩, hb_3, hA, hS, G⟩) (fun x w4 hJ => ?_)
  obtain ⟨k, q, s⟩ := x; obtain ⟨⟨hq, ⟨l, hl, hlk, hl2⟩, hd⟩, hb_3, hA, hS, G⟩ := hJ; simp only [] at hq hl hlk hd hS
  refine RC.seq (RC.seq (RC.region rfl ?_));refine RL.mvS rfl ?_;refine RL.eS (.bin rfl rfl rfl) ?_;refine RL.nil (RC.back ?_);refine RC.cond_dec rfl (fun h5 => ?_) (fun h5 => ?_)
  ·
   obtain ⟨g, a, b, it, L, R, el, e1, e2, e3, _, _⟩ := hl.ne h5
   have hll : l.length = L.length + (R.length + 1) := (by rw [el]; simp)
   obtain ⟨x, hgx, hxa, hxb⟩ : ∃ x, getA A q = some x ∧ IsT A x.k0 L ∧ IsT A x.k1 R := ⟨_, e1, e2, e3⟩
   clear e1 e2 e3 el
   have hxo := hnok x (getA_nok hgx)
   have hsr := sizeA_rng hxa (by omega)
   obtain ⟨y2, f2, hgv2, hys, hyg⟩ := getV_s A x.k0
   obtain ⟨k, rfl⟩ : ∃ m, k = m + 1 := ⟨k - 1, by omega⟩
   refine RC.skip (RC.back (RC.block (RC.seq (RC.region rfl ?_))));refine RL.eS (.loadR ([.slice na A.nodes.length nc, .slice fa A.free.length fc]) sh26 rfl hb_3.row rfl) ?_;refine RL.mvS rfl ?_;refine RL.call rfl ok125 (c_aGet A na fa nc fc q hq w4 hA.now) rfl rfl ?_;rintro _ w6 ⟨rfl, s7⟩;have G := G.trans s7.agr;have hb_3 := hb_3.sub s7;have hA := hA.sub s7;have hS := hS.sub s7;refine RL.eS (.as (v' := .tuple #[x.val, .int .i64 0]) (.move rfl) (by rw [getV_yes hgx])) ?_;refine RL.eS (.extract rfl rfl) ?_;refine RL.eS (.extract rfl rfl) ?_;refine RL.alloc ze140 rfl rfl (fun b_7 w_7 e_7 z_7 hb_7 s_7 => ?_);have n_3__7 := hb_3.ne e_7;have d_hA_b_7 := hA.neNew e_7;have d_hS_b_7 := hS.neNew e_7
   have geG_7 := agLe G e_7
   have G := G.trans s_7.agr;have hb_3 := hb_3.sub s_7;have hA := hA.sub s_7;have hS := hS.sub s_7;refine RL.stS sh140 rfl rfl rfl hb_7 (fun w8 z8 hb_7 a8 => ?_)
   have G := agNew G a8 geG_7
   have hb_3 := hb_3.upd a8 n_3__7;have hA := hA.updD a8 d_hA_b_7;have hS := hS.updD a8 d_hS_b_7
   have hb_7 : Has w8 b_7 (x.cells) _ := hb_7.now (by kernel_rfl)
   refine RL.asS rfl ?_;refine RL.nil (RC.back (RC.seq (RC.region rfl ?_)));refine RL.eS (.loadR ([.slice na A.nodes.length nc, .slice fa A.free.length fc]) sh26 rfl hb_3.row rfl) ?_;refine RL.eS (.field0 fo140_5 rfl) ?_;refine RL.eS (.indexArr ar138 rfl rfl (by omega)) ?_;refine RL.eS (.load1 sh31 rfl (hb_7.cell rfl)) ?_;refine RL.call rfl ok125 (c_aGet A na fa nc fc x.k0 (hxo.kids _ (by simp [Node.kids])) w8 hA.now) rfl rfl ?_;rintro _ w9 ⟨rfl, s10⟩;have G := G.trans s10.agr;have hb_3 := hb_3.sub s10;have hA := hA.sub s10;have hS := hS.sub s10;have hb_7 := hb_7.sub s10;refine RL.eS (.as (v' := .tuple #[y2.val, .int .i64 f2]) (.move rfl) (by rw [hgv2])) ?_;refine RL.eS (.extract rfl rfl) ?_;refine RL.eS (.extract rfl rfl) ?_;refine RL.alloc ze140 rfl rfl (fun b_9 w_9 e_9 z_9 hb_9 s_9 => ?_);have n_3__9 := hb_3.ne e_9;have n_7__9 := hb_7.ne e_9;have d_hA_b_9 := hA.neNew e_9;have d_hS_b_9 := hS.neNew e_9
   have geG_9 := agLe G e_9
   have G := G.trans s_9.agr;have hb_3 := hb_3.sub s_9;have hA := hA.sub s_9;have hS := hS.sub s_9;have hb_7 := hb_7.sub s_9;refine RL.stS sh140 rfl rfl rfl hb_9 (fun w11 z11 hb_9 a11 => ?_)
   have G := agNew G a11 geG_9
   have hb_3 := hb_3.upd a11 n_3__9;have hA := hA.updD a11 d_hA_b_9;have hS := hS.updD a11 d_hS_b_9;have hb_7 := hb_7.upd a11 n_7__9
   have hb_9 : Has w11 b_9 (y2.cells) _ := hb_9.now (by kernel_rfl)
   refine RL.asS rfl ?_;refine RL.nil (RC.back (RC.seq (RC.region rfl ?_)));refine RL.mvS rfl ?_;refine RL.eS (.loadR (x.cells) sh140 rfl hb_7.row rfl) ?_;refine RL.eS (.field0 fo140_4 rfl) ?_;refine RL.eS (.as (v' := .int .i64 (sizeA A x.k0)) (.load1 sh2 rfl (hb_9.cell rfl)) (by rw [hys])) ?_;refine RL.callv rfl rfl (us := []) (cs := cs) hf (hT s x (sizeA A x.k0) w11 hxo hsr.1 hsr.2 hS) rfl rfl ?_;rintro _ w12 ⟨rfl, hS2, ag⟩
   have hG7 := geG_7
   have hG9 := geG_9
   have G := G.trans ag;have hA := hA.step ag hMC;have hb_3 := hb_3.step ag hC3;have hb_7 := hb_7.step ag (fun e => by have := hCw _ e; omega)
   have hS := hS2
   refine RL.asS rfl ?_;refine RL.nil (RC.back (RC.seq (RC.seq (RC.region rfl ?_))));refine RL.mvS rfl ?_;refine RL.eS (.bin rfl rfl rfl) ?_;refine RL.mvS rfl ?_;refine RL.split 39 rfl (fun h14 => ?_) (fun h14 => ?_)
   ·
    have hn0 := h14
    refine RL.mvS rfl ?_;refine RL.eS (.bin rfl rfl rfl) ?_;refine RL.eS (.pick_t rfl rfl) ?_;refine RL.nil (RC.back ?_);refine RC.cond_dec rfl (fun h15 => ?_) (fun h15 => ?_)
    ·
     have hn1 := h15
     refine RC.exit rfl (RC.back (RC.seq (RC.region rfl ?_)));refine RL.asS rfl ?_;refine RL.nil (RC.back ?_);refine RC.d1 6 rfl rfl rfl ?_
     rw [hd, downF_stop hgx ⟨hn0, hn1⟩]
     exact ⟨G, .inr ⟨(isMapB_iff A r).1 hmb, rfl, hS⟩⟩
    ·
     have hs1 : (step s x (sizeA A x.k0)).2 = 1 := Decidable.not_not.1 h15
     refine RC.skip (RC.back (RC.region rfl ?_));refine RL.eS (.as (v' := .int .i64 1) (.move rfl) (by rw [hs1])) ?_;refine RL.eS (.field0 fo140_5 rfl) ?_;refine RL.eS (.indexArr ar138 rfl rfl (by omega)) ?_;refine RL.eS (.load1 sh31 rfl (hb_7.cell rfl)) ?_;refine RL.asS rfl ?_
     exact RL.nil (fun a ka => ⟨(k, x.k1, (step s x (sizeA A x.k0)).1), ⟨⟨hxo.kids _ (by simp [Node.kids]), ⟨R, hxb, by omega, by omega⟩, by rw [hd, downF_r hgx hs1]⟩, hb_3, hA, hS, G⟩, by omega, ka.keep (keep_of (by repeat (first | exact trivial | refine And.intro rfl ?_)))⟩)
   ·
    have hs0 : (step s x (sizeA A x.k0)).2 = 0 := Decidable.not_not.1 h14
    refine RL.offs 2 rfl ?_;refine RL.eS (.pick_f rfl rfl) ?_;refine RL.nil (RC.back ?_);refine RC.cond_f rfl ?_;refine RC.skip (RC.back (RC.region rfl ?_));refine RL.eS (.as (v' := .int .i64 0) (.move rfl) (by rw [hs0])) ?_;refine RL.eS (.field0 fo140_5 rfl) ?_;refine RL.eS (.indexArr ar138 rfl rfl (by omega)) ?_;refine RL.eS (.load1 sh31 rfl (hb_7.cell rfl)) ?_;refine RL.asS rfl ?_
    exact RL.nil (fun a ka => ⟨(k, x.k0, (step s x (sizeA A x.k0)).1), ⟨⟨hxo.kids _ (by simp [Node.kids]), ⟨L, hxa, by omega, by omega⟩, by rw [hd, downF_l hgx hs0]⟩, hb_3, hA, hS, G⟩, by omega, ka.keep (keep_of (by repeat (first | exact trivial | refine And.intro rfl ?_)))⟩)
  ·
   obtain rfl : q = 0 := Decidable.not_not.1 h5
   rw [downF_none (getA_0 A)] at hd
   refine RC.exit rfl (RC.back (RC.seq (RC.region rfl ?_)));refine RL.asS rfl ?_;refine RL.nil (RC.back ?_);refine RC.d1 6 rfl rfl rfl ?_
   rw [hd]
   exact ⟨G, .inr ⟨(isMapB_iff A r).1 hmb, rfl, hS⟩⟩
theorem isMap_len {A : Ar} {r : Int} {l : List It} (h : isMap A r) (hl : IsT A r l) : l.length ≤ 200 := by
  obtain ⟨_, m, h1, h2⟩ := h
  rw [hl.unique h1]; exact h2
theorem down_form {σ : Type} {C : Nat → Prop} {I : σ → World → Prop} {step : σ → Node → Int → σ × Int} {A : Ar} {r : Int} {s0 : σ} {v : Value} {w' : World} (h : ¬ isMap A r ∧ v = .int .i64 1 ∧ Ft C (I s0) w' ∨ isMap A r ∧ v = .int .i64 0 ∧ Ft C (I (downF A step 201 r s0)) w') :
    ∃ s e, v = .int .i64 e ∧ Ft C (I s) w' ∧ (¬ isMap A r ∧ e = 1 ∧ s = s0 ∨ isMap A r ∧ e = 0 ∧ s = downF A step 201 r s0) := by
  rcases h with ⟨h1, h2, h3⟩ | ⟨h1, h2, h3⟩
  · exact ⟨s0, 1, h2, h3, .inl ⟨h1, rfl, rfl⟩⟩
  · exact ⟨_, 0, h2, h3, .inr ⟨h1, rfl, rfl⟩⟩
def ISize (b2 : Nat) (s : Int) (u : World) : Prop := Has u b2 [.int .i64 s] 3
theorem t_size (b2 : Nat) : Tells 104 [.pointer (some ⟨b2, 0, none⟩)] (· = b2) (ISize b2) stSize := by
 intro s x left w hx h0 h1 hS
 have hb2 : Has w b2 [.int .i64 s] 3 := hS.now
 refine FC.intro Tryz.func104 rfl Tryz.ntmps104 rfl ?_
 have G : Agr (· = b2) w w := Agr.refl _ _
 refine RC.seq (RC.region rfl ?_);refine RL.box rfl rfl rfl (fun b_3 w_3 e_3 z_3 hb_3 s_3 => ?_)
 have n2__3 := hb2.ne e_3
 have G := G.trans s_3.agr;have hb2 := hb2.sub s_3
 have hb_3 : Has w_3 b_3 (x.cells) _ := hb_3
 refine RL.asS rfl ?_;refine RL.nil (RC.back (RC.seq (RC.region rfl ?_)));refine RL.eS (.field0 fo140_4 rfl) ?_;refine RL.eS (.load1 sh2 rfl (hb_3.cell rfl)) ?_;refine RL.stS sh3 rfl rfl rfl hb2 (fun w1 z1 hb2 a1 => ?_);have G := G.trans a1;refine RL.nil (RC.back (RC.seq (RC.region rfl ?_)));refine RL.asS rfl ?_;refine RL.nil (RC.back ?_);refine RC.d1 5 rfl rfl rfl ?_
 exact ⟨rfl, Ft.has hb2, G⟩
theorem c_oSize (A : Ar) (na fa : Option Addr) (nc fc : Nat) (r : Int) (hr : U64 r) (w : World) (hA : ArR w na fa A) :
    FC Tryz.prog 46 [arV na fa nc fc A, .int .u64 r] w (fun v w' => Sub w w' ∧ ∃ n e, v = .tuple #[.int .i64 n, .int .i64 e] ∧ (¬ isMap A r → n = 0 ∧ e = 1) ∧ ∀ l, isMap A r → IsT A r l → n = l.length ∧ e = 0) := by
  refine FC.intro Tryz.func46 rfl Tryz.ntmps46 rfl ?_
  have S := Sub.refl w
  refine RC.seq (RC.region rfl ?_);refine RL.box rfl rfl rfl (fun b_2 w_2 e_2 z_2 hb_2 s_2 => ?_);have S := S.trans s_2
  have hb_2 : Has w_2 b_2 ([.slice na A.nodes.length nc, .slice fa A.free.length fc]) _ := hb_2
  refine RL.asS rfl ?_;refine RL.asS rfl ?_;refine RL.nil (RC.back (RC.seq (RC.region rfl ?_)));refine RL.alloc ze3 rfl rfl (fun b_6 w_6 e_6 z_6 hb_6 s_6 => ?_);have ge_6 := S.le e_6;have n_2__6 := hb_2.ne e_6;have S := S.trans s_6;have hb_2 := hb_2.sub s_6;refine RL.stS sh3 rfl rfl rfl hb_6 (fun w1 z1 hb_6 a1 => ?_);have S := S.upd a1 ge_6;have hb_2 := hb_2.upd a1 n_2__6;refine RL.nil (RC.back (RC.seq (RC.region rfl ?_)));refine RL.eS (.loadR ([.slice na A.nodes.length nc, .slice fa A.free.length fc]) sh26 rfl hb_2.row rfl) ?_;refine RL.mvS rfl ?_;refine RL.eS (.func (xs := []) (ys := [_]) rfl rfl) ?_;refine RL.call rfl ok68 (c_down 104 ok104 _ _ _ _ (t_size b_6) A na fa nc fc r hr (0 : Int) (· < w.heap.size) w1 ((Ft.of_sub fun u s => hA.sub s).sub S) (fun k hk e => by omega) (Ft.has hb_6)) rfl rfl ?_;rintro _ w2 ⟨ag, hr2⟩
  obtain ⟨s, e, rfl, hS, hse⟩ := down_form hr2
  have S := S.agrN ag (fun k e => e ▸ ge_6)
  have hb_6 : Has w2 b_6 [.int .i64 s] 3 := hS.now
  refine RL.asS rfl ?_;refine RL.nil (RC.back (RC.seq (RC.region rfl ?_)));refine RL.eS (.load1 sh3 rfl (hb_6.cell rfl)) ?_;refine RL.mvS rfl ?_;refine RL.asS rfl ?_;refine RL.asS rfl ?_;refine RL.nil (RC.back ?_);refine RC.done (rs := [.tmp 4, .tmp 5]) (vs := [_, _]) rfl rfl ⟨rfl, rfl, trivial⟩ ?_
  refine ⟨S, s, e, rfl, fun h => ?_, fun l hm hl => ?_⟩
  · rcases hse with ⟨_, h2, h3⟩ | ⟨h2, _⟩
    · exact ⟨h3, h2⟩
    · exact absurd h2 h
  · rcases hse with ⟨h2, _⟩ | ⟨_, h2, h3⟩
    · exact absurd hm h2
    · have h4 := isMap_len hm hl
      exact ⟨by rw [h3, down_size hl (by omega)], h2⟩
def hasK (l : List It) (key : Int) : Bool := l.any fun x => decide (x.k = key)
theorem hasK_iff {l : List It} {key : Int} : hasK l key = true ↔ ∃ y ∈ l, y.k = key := by simp [hasK]
theorem hasK_no {l : List It} {key : Int} (h : ∀ y ∈ l, ¬ y.k = key) : hasK l key = false := by
  rw [Bool.eq_false_iff]; intro e; obtain ⟨y, hy, e⟩ := hasK_iff.1 e; exact h y hy e
theorem Ext.isT {A A' : Ar} (h : Ext A A') {r : Int} {L : List It} (hr : IsT A r L) : IsT A' r L := by
  induction hr with
  | nil => exact .nil
  | node h1 _ _ h4 h5 ih1 ih2 => exact .node (h.get h1) ih1 ih2 h4 h5
def szF (A : Ar) (a b : Int) : Int := IntKind.i64.wrap (IntKind.i64.wrap (1 + sizeA A a) + sizeA A b)
def mkN (A : Ar) (n v a b : Int) : Node := tNode 0 n v (szF A a b) a b
def Mk (s : St) (n v a b : Int) (s' : St) (r : Int) : Prop :=
  (¬ s.2 = 0 ∧ s' = s ∧ r = 0) ∨ (s.2 = 0 ∧ mayMake s.1 (mkN s.1 n v a b) ∧ 0 < s.1.free.length ∧ s' = (makeA s.1 (mkN s.1 n v a b), 0) ∧ r = makeR s.1) ∨
  (s.2 = 0 ∧ mayMake s.1 (mkN s.1 n v a b) ∧ s.1.free.length = 0 ∧ s' = (s.1, 2) ∧ r = 0) ∨ (s.2 = 0 ∧ ¬ mayMake s.1 (mkN s.1 n v a b) ∧ s' = (s.1, 1) ∧ r = 0)
theorem IsT.right {A : Ar} {r : Int} {L : List It} (h : IsT A r L) : rightR r = true := by
  cases h with
  | nil => exact (rightR_iff 0).2 (.inl rfl)
  | node h1 =>
    have h2 := (getA_rng h1).1
    refine Classical.byContradiction fun e => ?_
    rw [placeR_not (fun hn : nodeR r => e hn.2)] at h2
    omega
theorem Mk.gs {s s' : St} {n v a b r : Int} (h : Mk s n v a b s' r) (hA : AOk s.1) (hk : s.2 = 0 → rightR a = true ∧ rightR b = true) : Gs 1 s s' := by
  have hmay : s.2 = 0 → mayMake s.1 (mkN s.1 n v a b) := fun h0 => by
    obtain ⟨h1, h2⟩ := hk h0
    refine ⟨hA, Int.le_refl 1, (by decide : (1 : Int) ≤ 100), ?_⟩
    have h3 : rightR 0 = true := (rightR_iff 0).2 (.inl rfl)
    rw [well_iff]
    refine ⟨by simp [x0, mkN, tNode], ?_⟩
    simp [x0, mkN, tNode, Node.kids, h1, h2, h3]
  rcases h with ⟨h0, rfl, rfl⟩ | ⟨h0, hm, hf, rfl, rfl⟩ | ⟨h0, hm, hf, rfl, rfl⟩ | ⟨h0, hm, rfl, rfl⟩
  · exact (Gs.refl hA).mono (by omega)
  · refine ⟨make_ext hA hf, make_ok hm hf, ?_, fun e => absurd h0 e, fun _ e => absurd rfl e⟩
    simp only [makeA, List.length_take]; omega
  · exact ⟨Ext.refl _, hA, by omega, fun e => absurd h0 e, fun _ _ => ⟨rfl, by omega⟩⟩
  · exact absurd (hmay h0) hm
theorem Mk.u64 {s s' : St} {n v a b r : Int} (h : Mk s n v a b s' r) : U64 r := by
  rcases h with ⟨_, _, rfl⟩ | ⟨_, hm, hf, _, rfl⟩ | ⟨_, _, _, _, rfl⟩ | ⟨_, _, _, rfl⟩
  · unfold U64; decide
  · exact ofR_U64 (make_isR hm.1 hf)
  · unfold U64; decide
  · unfold U64; decide
theorem Mk.isT {s s' : St} {a b r : Int} {it : It} {L R : List It} (h : Mk s it.k it.v a b s' r) (hA : AOk s.1) (h0 : s'.2 = 0) (ha : IsT s.1 a L) (hb : IsT s.1 b R) (hl : L.length + R.length ≤ 1000000)
    (hp : ∀ y ∈ L ++ R, beforeK it.k y.k = true) (hs : Srt (L ++ it :: R)) : IsT s'.1 r (L ++ it :: R) := by
  rcases h with ⟨h1, rfl, rfl⟩ | ⟨h1, hm, hf, rfl, rfl⟩ | ⟨_, _, _, rfl, _⟩ | ⟨_, _, rfl, _⟩
  · exact absurd h0 h1
  · have hx := make_ext (x := mkN s.1 it.k it.v a b) hA hf
    refine .node (g := genAt s.1 (lastAt s.1)) (a := a) (b := b) ?_ (hx.isT ha) (hx.isT hb) hp hs
    rw [get_made hm hf]
    have hz : szF s.1 a b = (L.length : Int) + R.length + 1 := by
      unfold szF
      rw [sizeA_isT ha, sizeA_isT hb]
      have e1 : IntKind.i64.wrap (1 + (L.length : Int)) = 1 + L.length := wrap_i64 (by omega)
      have e2 : IntKind.i64.wrap (1 + (L.length : Int) + R.length) = 1 + L.length + R.length := wrap_i64 (by omega)
      rw [e1, e2]
      omega
    simp only [madeN, mkN, tNode, hz]
  · exact absurd h0 (show ¬ (2 : Int) = 0 by decide)
  · exact absurd h0 (show ¬ (1 : Int) = 0 by decide)

def ltL (key : Int) (L : List It) : List It := L.filter fun x => decide (x.k < key)
def geL (key : Int) (L : List It) : List It := L.filter fun x => decide (key ≤ x.k)
def gtL (key : Int) (L : List It) : List It := L.filter fun x => decide (key < x.k)
def putL (L : List It) (key v : Int) : List It := ltL key L ++ ⟨key, v⟩ :: gtL key L
def delL (L : List It) (key : Int) : List It := L.filter fun x => decide (¬ x.k = key)
theorem filter_sub {p : It → Bool} {L : List It} {y : It} (h : y ∈ L.filter p) : y ∈ L := (List.mem_filter.1 h).1
theorem filter_all {p : It → Bool} {L : List It} (h : ∀ y ∈ L, p y = true) : L.filter p = L := List.filter_eq_self.2 h
theorem filter_none {p : It → Bool} {L : List It} (h : ∀ y ∈ L, p y = false) : L.filter p = [] := List.filter_eq_nil_iff.2 fun y hy => by rw [h y hy]; simp
section
variable {L R : List It} {it : It} {key v : Int}
theorem ltL_lt (h : Srt (L ++ it :: R)) (q : it.k < key) : ltL key (L ++ it :: R) = L ++ it :: ltL key R := by
  unfold ltL
  rw [List.filter_append, List.filter_cons, if_pos (by simpa using q), filter_all]
  intro y hy; have := h.split.2.2.1 y hy; simp; omega
theorem geL_lt (h : Srt (L ++ it :: R)) (q : it.k < key) : geL key (L ++ it :: R) = geL key R := by
  unfold geL
  rw [List.filter_append, List.filter_cons, if_neg (by simp; omega), filter_none (L := L), List.nil_append]
  intro y hy; have := h.split.2.2.1 y hy; simp; omega
theorem ltL_ge (h : Srt (L ++ it :: R)) (q : ¬ it.k < key) : ltL key (L ++ it :: R) = ltL key L := by
  unfold ltL
  rw [List.filter_append, List.filter_cons, if_neg (by simpa using q), filter_none (L := R), List.append_nil]
  intro y hy; have := h.split.2.2.2 y hy; simp; omega
theorem geL_ge (h : Srt (L ++ it :: R)) (q : ¬ it.k < key) : geL key (L ++ it :: R) = geL key L ++ it :: R := by
  unfold geL
  rw [List.filter_append, List.filter_cons, if_pos (by simp; omega), filter_all (L := R)]
  intro y hy; have := h.split.2.2.2 y hy; simp; omega
theorem gtL_ge (h : Srt (L ++ it :: R)) (q : key < it.k) : gtL key (L ++ it :: R) = gtL key L ++ it :: R := by
  unfold gtL
  rw [List.filter_append, List.filter_cons, if_pos (by simp; omega), filter_all (L := R)]
  intro y hy; have := h.split.2.2.2 y hy; simp; omega
theorem gtL_le (h : Srt (L ++ it :: R)) (q : ¬ key < it.k) : gtL key (L ++ it :: R) = gtL key R := by
  unfold gtL
  rw [List.filter_append, List.filter_cons, if_neg (by simp; omega), filter_none (L := L), List.nil_append]
  intro y hy; have := h.split.2.2.1 y hy; simp; omega
theorem geL_gt (h : ∀ y ∈ L, ¬ y.k = key) : geL key L = gtL key L := by
  unfold geL gtL
  exact List.filter_congr fun y hy => decide_eq_decide.2 ⟨fun e => by have := h y hy; omega, fun e => by omega⟩
theorem putL_eq (h : Srt (L ++ it :: R)) (q : it.k = key) : putL (L ++ it :: R) key v = L ++ ⟨key, v⟩ :: R := by
  unfold putL
  rw [ltL_ge h (by omega), gtL_le h (by omega)]
  have h1 : ltL key L = L := filter_all fun y hy => by have := h.split.2.2.1 y hy; simp; omega
  have h2 : gtL key R = R := filter_all fun y hy => by have := h.split.2.2.2 y hy; simp; omega
  rw [h1, h2]
theorem putL_lt (h : Srt (L ++ it :: R)) (q : key < it.k) : putL (L ++ it :: R) key v = putL L key v ++ it :: R := by
  unfold putL
  rw [ltL_ge h (by omega), gtL_ge h q]
  simp
theorem putL_gt (h : Srt (L ++ it :: R)) (q : it.k < key) : putL (L ++ it :: R) key v = L ++ it :: putL R key v := by
  unfold putL
  rw [ltL_lt h q, gtL_le h (by omega)]
  simp
theorem delL_eq (h : Srt (L ++ it :: R)) (q : it.k = key) : delL (L ++ it :: R) key = L ++ R := by
  unfold delL
  rw [List.filter_append, List.filter_cons, if_neg (by simpa using q), filter_all, filter_all]
  · intro y hy; have := h.split.2.2.2 y hy; simp; omega
  · intro y hy; have := h.split.2.2.1 y hy; simp; omega
theorem delL_lt (h : Srt (L ++ it :: R)) (q : key < it.k) : delL (L ++ it :: R) key = delL L key ++ it :: R := by
  unfold delL
  rw [List.filter_append, List.filter_cons, if_pos (by simp; omega), filter_all (L := R)]
  intro y hy; have := h.split.2.2.2 y hy; simp; omega
theorem delL_gt (h : Srt (L ++ it :: R)) (q : it.k < key) : delL (L ++ it :: R) key = L ++ it :: delL R key := by
  unfold delL
  rw [List.filter_append, List.filter_cons, if_pos (by simp; omega), filter_all (L := L)]
  intro y hy; have := h.split.2.2.1 y hy; simp; omega
theorem Srt.sub {p : It → Bool} (h : Srt L) : Srt (L.filter p) := List.Pairwise.filter _ h
theorem Srt.put (h : Srt L) : Srt (putL L key v) := by
  unfold putL
  refine Srt.join h.sub h.sub (fun y hy => ?_) (fun y hy => ?_)
  · have := (List.mem_filter.1 hy).2; simpa using this
  · have := (List.mem_filter.1 hy).2; simpa using this
theorem putL_mem {y : It} (h : y ∈ putL L key v) : y = ⟨key, v⟩ ∨ y ∈ L := by
  unfold putL at h
  rcases List.mem_append.1 h with h | h
  · exact .inr (filter_sub h)
  · rcases List.mem_cons.1 h with h | h
    · exact .inl h
    · exact .inr (filter_sub h)
theorem putR_putL (h : Srt L) : putR L key v = putL L key v := putR_srt h key v
theorem putL_len (h : Srt L) : (putL L key v).length ≤ L.length + 1 := by rw [← putR_putL h]; exact putR_len L key v
end
def Lp (l : Nat) (r : Loop) (w : World) : Prop := w.heap[l]? = some (.loop r)
theorem Lp.lt {l r w} (h : Lp l r w) : l < w.heap.size := by
  unfold Lp at h
  rcases Nat.lt_or_ge l w.heap.size with q | q
  · exact q
  · rw [Array.getElem?_eq_none q] at h; cases h
theorem Lp.step {N : Nat → Prop} {l r w w'} (h : Lp l r w) (k : Agr N w w') (hn : ¬ N l) : Lp l r w' := (k.block l h.lt hn).trans h
theorem Lp.sub {l r w w'} (h : Lp l r w) (s : Sub w w') : Lp l r w' := (s.block l h.lt).trans h
theorem Lp.upd {l r w w' b} (h : Lp l r w) (a : Agr (· = b) w w') (hn : l ≠ b) : Lp l r w' := h.step a hn
theorem Lp.ne {l r w b} (h : Lp l r w) (hb : b = w.heap.size) : l ≠ b := fun e => by have := h.lt; omega
theorem Lp.put {l r r' w} (h : Lp l r w) : Lp l r' (w.putObj l (.loop r')) := World.putObj_heap_same h.lt
theorem agr_put {l : Nat} {o : Obj} {w : World} : Agr (· = l) w (w.putObj l o) := ⟨rfl, rfl, rfl, by simp, fun k _ hn => World.putObj_heap_other hn⟩

section
variable {P : Program} {n : Cx} {F : (List (Nat × Value))} {w : World} {p : Post} {ops : Array Oper} {rest : List Oper} {d : Option Tmp} {t : TypeId} {pos : String} {af : Array Edge} {g : Option (Nat × Bool)}
def FY (P : Program) (l : Nat) (args : List Value) (w : World) (R : Value → World → Prop) : Prop :=
  ∃ r : Loop, Lp l r w ∧ args.length = r.params.size ∧ RoundIn Fence.wide 0 P l r.fn ((r.params.zip args.toArray).foldl (fun tmps (t, a) => tmps.setIfInBounds t a) r.tmps) r.assign r.body w (fun e w' => ∃ v, e = .returned v ∧ R v w')
theorem RL.yield {l : Nat} {y : Operand} {xs : List Operand} {vs : List Value} {ts : Array TypeId} (hy : XL.ev F y = some (.func (.yield l) #[] #[])) (hx : evs F xs = some vs) {R : Value → World → Prop} (hc : FY P l vs w R) (hg : gsat ops F g = some true) (hd : inB d n = true)
    (h : ∀ v w', R v w' → RL P n ops rest (upd F d v) w' p) (hq : n.round = some none := by rfl) : RL P n ops (⟨d, .call ⟨.value y, xs.toArray, ts⟩, t, pos, af, g⟩ :: rest) F w p := by
  intro a k
  obtain ⟨r, h1, h2, h3⟩ := hc
  have he : (execOp a.eval ⟨d, .call ⟨.value y, xs.toArray, ts⟩, t, pos, af, g⟩).run P w = .ok (.round l r.fn ((r.params.zip vs.toArray).foldl (fun tmps (t, a) => tmps.setIfInBounds t a) r.tmps) r.assign r.body) w := by
    have hρ := k.agrees
    simp only [execOp, resolve, hρ y _ hy, Deferred.ofValue, evs_arr hρ hx, bind, Sem.bind, pure, invoke, Array.append_empty, Array.empty_append]
    exact run_yield h1 (by simpa using h2)
  rw [lwp_some hq]
  simp only [wpListIn]
  rw [wanted_of k hg, if_pos rfl]
  refine ⟨fun _ _ => trivial, ?_⟩
  rw [Oper.semAt_eq _ _ _ (not_defer he (fun _ e => by cases e)), he]
  refine ⟨fun e => (by cases e), ?_⟩
  refine RoundIn.mono h3 ?_
  rintro e w' ⟨v, rfl, hR⟩
  have := h v w' hR _ (k.upd d v hd)
  rwa [lwp_some hq] at this

theorem FC.introY {f : FuncId} {fn : Func} {c : Code} {args : List Value} {R : Value → World → Prop} {m : Nat} (hf : P.funcs[f]? = some fn) (hb : fn.body = some c) (hn : fn.ntmps = m) (ha : Nat.ble args.length m = true)
    (h : RC P ⟨m, some none, []⟩ c (env0 0 args) w (Post.fn P fn R)) : FC P f args w R := by
  have ha' : args.length ≤ m := by simpa using ha
  have key := h { tmps := args.toArray ++ Array.replicate (fn.ntmps - args.toArray.size) undef, defers := [] } ⟨by simp [hn]; omega, rfl, ?_⟩
  · rw [cwp_some rfl] at key
    refine callsIn_wide.1 (callsIn_of_wp (F := Fence.wide) (n := 0) hf hb trivial (wpIn_mono key ?_))
    intro e a w' hq
    cases e <;> simp only [Post.q, Post.fn, lookX] at hq <;> first | exact hq.elim | skip
    · obtain ⟨h1, v, h2, h3⟩ := hq; exact ⟨h1, v, h2, v, rfl, h3⟩
    · obtain ⟨h1, v, h2, h3⟩ := hq; exact ⟨h1, v, h2, v, rfl, h3⟩
  · intro t v ht
    obtain ⟨_, h2⟩ := look_env0 args 0 t v ht
    simp only [Nat.sub_zero] at h2
    have hlt : t < args.length := by
      rcases Nat.lt_or_ge t args.length with g | g
      · exact g
      · rw [List.getElem?_eq_none g] at h2; cases h2
    simp only []
    rw [Array.getElem?_append_left (by simpa using hlt)]
    simpa using h2
def markD (D : Nat) : Deferred := { target := .collected D, args := #[] }
def Post.fnM (P : Program) (fn : Func) (R : Value → World → Prop) : Post :=
  let r : Act → World → Prop := fun a w => (a.defers = [] ∨ ∃ D, a.defers = [markD D] ∧ w.heap[D]? = some (.deferred (some []))) ∧ ∀ w', (w' = w ∧ a.defers = [] ∨ ∃ D, a.defers = [markD D] ∧ w' = w.putObj D (.deferred none)) → ∃ v, (results fn a.tmps).run P w' = .ok v w' ∧ R v w'
  ⟨r, [], r⟩
theorem FC.introM {f : FuncId} {fn : Func} {c : Code} {args : List Value} {R : Value → World → Prop} {m : Nat} (hf : P.funcs[f]? = some fn) (hb : fn.body = some c) (hn : fn.ntmps = m) (ha : Nat.ble args.length m = true)
    (h : RC P ⟨m, some none, []⟩ c (env0 0 args) w (Post.fnM P fn R)) : FC P f args w R := by
  have ha' : args.length ≤ m := by simpa using ha
  have key := h { tmps := args.toArray ++ Array.replicate (fn.ntmps - args.toArray.size) undef, defers := [] } ⟨by simp [hn]; omega, rfl, ?_⟩
  · rw [cwp_some rfl] at key
    refine callsIn_wide.1 (callsIn_of_wp_marks (F := Fence.wide) (n := 0) hf hb trivial (wpIn_mono key ?_))
    have leave : ∀ (a : Act) (w' : World), (Post.fnM P fn R).ret a w' → LeavesInM Fence.wide 0 P fn a.tmps (fun e w' => ∃ v, e = .returned v ∧ R v w') a.defers .returning w' := by
      rintro a w' ⟨h1, h2⟩
      rcases h1 with h1 | ⟨D, h1, hD⟩
      · obtain ⟨v, h3, h4⟩ := h2 w' (.inl ⟨rfl, h1⟩)
        rw [h1]
        exact ⟨v, h3, v, rfl, h4⟩
      · obtain ⟨v, h3, h4⟩ := h2 _ (.inr ⟨D, h1, rfl⟩)
        rw [h1]
        exact ⟨fun e => (by cases e), .inl ⟨D, _, rfl, run_takeDeferred hD, v, h3, v, rfl, h4⟩⟩
    intro e a w' hq
    cases e <;> simp only [Post.q, Post.fnM, lookX] at hq <;> first | exact hq.elim | skip
    · exact leave a w' hq
    · exact leave a w' hq
  · intro t v ht
    obtain ⟨_, h2⟩ := look_env0 args 0 t v ht
    simp only [Nat.sub_zero] at h2
    have hlt : t < args.length := by
      rcases Nat.lt_or_ge t args.length with g | g
      · exact g
      · rw [List.getElem?_eq_none g] at h2; cases h2
    simp only []
    rw [Array.getElem?_append_left (by simpa using hlt)]
    simpa using h2

def endR (l : Nat) (j : Option Code) (R : Value → World → Prop) (a : Act) (w : World) : Prop := ∃ r, Lp l r w ∧ R (.bool j.isNone) (w.putObj l (.loop { r with state := if j.isNone then .ready else .done, pending := j }))
def roundP (l : Nat) (R : Value → World → Prop) (ids : List Nat) : Post := ⟨endR l none R, ids.map fun id => (id, endR l (some (.exit id)) R), endR l (some .ret) R⟩
def assignP (P : Program) (l : Nat) (r : Loop) (R : Value → World → Prop) (m : Nat) (ids : List Nat) : Post :=
  ⟨fun a1 w1 => Lp l r w1 ∧ ∀ w2, Agr (· = l) w1 w2 → w2.heap.size = w1.heap.size → Lp l { r with state := .busy } w2 → cwp ⟨m, some (some l), []⟩ P r.body (roundP l R ids).q a1 w2, [], fun _ _ => False⟩
theorem lookX_ids {l : Nat} {R : Value → World → Prop} {i : Nat} {K : Act → World → Prop} : ∀ {ids : List Nat}, lookX (ids.map fun id => (id, endR l (some (.exit id)) R)) i = some K → K = endR l (some (.exit i)) R
  | [], h => by cases h
  | j :: ids, h => by
    simp only [List.map_cons, lookX_cons] at h
    split at h
    · rename_i e; subst e; exact (Option.some.inj h).symm
    · exact lookX_ids h
theorem FY.intro {l m : Nat} {r : Loop} {args : List Value} {R : Value → World → Prop} {F : List (Nat × Value)} (ids : List Nat) (hl : Lp l r w) (hs : r.state = .ready) (hz : args.length = r.params.size)
    (hk : Knows ⟨m, some (some l), []⟩ F { tmps := (r.params.zip args.toArray).foldl (fun tmps (t, a) => tmps.setIfInBounds t a) r.tmps, defers := [] })
    (h : RC P ⟨m, some (some l), []⟩ r.assign F w (assignP P l r R m ids)) : FY P l args w R := by
  refine ⟨r, hl, hz, roundIn_of_wpIn trivial ?_⟩
  have key := h _ hk
  rw [cwp_some rfl] at key
  refine wpIn_mono key fun e a1 w1 hq => ?_
  cases e with
  | normal =>
    obtain ⟨h1, h2⟩ := hq
    refine ⟨_, run_beginRound h1 hs, ?_⟩
    have h3 := h2 _ agr_put (by simp) h1.put
    rw [cwp_some rfl] at h3
    refine wpIn_mono h3 fun e a w hq => ?_
    cases e with
    | normal =>
      obtain ⟨r', h4, h5⟩ := hq
      exact ⟨_, _, run_endRound none h4, _, rfl, h5⟩
    | ret =>
      obtain ⟨r', h4, h5⟩ := hq
      exact ⟨_, _, run_endRound (some .ret) h4, _, rfl, h5⟩
    | exit i =>
      simp only [Post.q] at hq
      split at hq
      · rename_i K hK
        rw [lookX_ids hK] at hq
        obtain ⟨r', h4, h5⟩ := hq
        exact ⟨_, _, run_endRound (some (.exit i)) h4, _, rfl, h5⟩
      · exact hq.elim
    | goto _ => exact hq.elim
    | panic _ => exact hq.elim
    | outgrown => exact hq.elim
  | exit i =>
    simp only [Post.q, assignP, lookX] at hq
  | ret => exact hq.elim
  | goto _ => exact hq.elim
  | panic _ => exact hq.elim
  | outgrown => exact hq.elim
theorem RC.begin {l m : Nat} {r : Loop} {R : Value → World → Prop} {ids : List Nat} {F : List (Nat × Value)} (hl : Lp l r w) (h : ∀ w2, Agr (· = l) w w2 → w2.heap.size = w.heap.size → Lp l { r with state := .busy } w2 → RC P ⟨m, some (some l), []⟩ r.body F w2 (roundP l R ids)) :
    ∀ a, Knows ⟨m, some (some l), []⟩ F a → (assignP P l r R m ids).nrm a w := fun a ka => ⟨hl, fun w2 h1 h2 h3 => h w2 h1 h2 h3 a ka⟩
theorem RC.endr {n : Cx} {l : Nat} {r : Loop} {R : Value → World → Prop} {j : Option Code} {F : List (Nat × Value)} (hl : Lp l r w) (h : ∀ w', Agr (· = l) w w' → w'.heap.size = w.heap.size → Lp l { r with state := if j.isNone then .ready else .done, pending := j } w' → R (.bool j.isNone) w') :
    ∀ a, Knows n F a → endR l j R a w := fun a ka => ⟨r, hl, h _ agr_put (by simp) hl.put⟩

attribute [irreducible] endR
def Df (D : Nat) (w : World) : Prop := w.heap[D]? = some (.deferred (some []))
theorem RC.range {id m gf : Nat} {g : Operand} {ps : Array Tmp} {assign body : Code} {cs : List Value} {F : List (Nat × Value)} (hg : XL.ev F g = some (.func (.func gf) #[] cs.toArray)) (hf : calleeOK P gf = true)
    (h : ∀ (r : Loop) (W1 : World), r.state = .ready → r.pending = none → r.params = ps → r.assign = assign → r.body = body → Knows ⟨m, some (some (w.heap.size + 1)), []⟩ F { tmps := r.tmps, defers := [] } → Sub w W1 → W1.heap.size = w.heap.size + 2 → Lp (w.heap.size + 1) r W1 → Df w.heap.size W1 →
      FC P gf (.func (.yield (w.heap.size + 1)) #[] #[] :: cs) W1 (fun _ W2 => ∃ r2, Lp (w.heap.size + 1) r2 W2 ∧ r2.state ≠ .busy ∧ ∀ W3, Agr (· = w.heap.size + 1) W2 W3 → W3.heap.size = W2.heap.size →
        ((r2.pending = none ∨ r2.pending = some (.exit id)) ∧ (∀ a, Knows ⟨m, some none, [markD w.heap.size]⟩ F a → p.nrm a W3) ∨ r2.pending = some .ret ∧ ∀ a, Knows ⟨m, some none, [markD w.heap.size]⟩ F a → p.ret a W3))) :
    RC P ⟨m, some none, []⟩ (.block id (.rangeFunc g ps assign body)) F w p := by
  intro a k
  rw [cwp_some rfl]
  refine wpIn_block (wpIn_rangeFunc ?_)
  intro fn _
  obtain ⟨r, hr⟩ : ∃ r : Loop, r = { state := .ready, pending := none, fn, tmps := a.tmps, params := ps, assign, body, defers := w.heap.size } := ⟨_, rfl⟩
  obtain ⟨W1, hW1⟩ : ∃ W1, W1 = (w.alloc (.deferred (some []))).alloc (.loop r) := ⟨_, rfl⟩
  have hL1 : Lp (w.heap.size + 1) r W1 := by
    have := World.alloc_heap_new (w.alloc (.deferred (some []))) (.loop r)
    rw [World.size_alloc] at this
    rw [hW1]; exact this
  have hD1 : Df w.heap.size W1 := by
    rw [hW1]
    have := World.alloc_heap_new w (.deferred (some []))
    unfold Df
    rw [heap_alloc_old' _ _ (by simp)]
    exact this
  have hS1 : Sub w W1 := by
    rw [hW1]
    exact ⟨rfl, rfl, rfl, by simp; omega, fun k hk => by rw [heap_alloc_old' _ _ (by simp; omega), heap_alloc_old' _ _ hk]⟩
  have hz1 : W1.heap.size = w.heap.size + 2 := by rw [hW1]; simp
  have hga : a.eval g = .func (.func gf) #[] cs.toArray := k.agrees _ _ hg
  refine ⟨w.heap.size + 1, [markD w.heap.size], W1, { target := .fn (.func gf) cs.toArray, args := #[.func (.yield (w.heap.size + 1)) #[] #[]] }, W1, gf, #[.func (.yield (w.heap.size + 1)) #[] #[]] ++ cs.toArray, W1, ?_, ?_, fun _ _ => trivial, ?_, fun e => (by cases e), ?_⟩
  · rw [hW1, hr]; exact run_enterLoop_outer _ _ _ _ _
  · simp only [resolve, hga]
    simp [go_sem]
  · simp only [invoke]
    exact run_callFunc hf
  · have hk1 : Knows ⟨m, some (some (w.heap.size + 1)), []⟩ F { tmps := r.tmps, defers := [] } := by
      rw [hr]; exact ⟨k.size, rfl, k.slot⟩
    have hc := h r W1 (by rw [hr]) (by rw [hr]) (by rw [hr]) (by rw [hr]) (by rw [hr]) hk1 hS1 hz1 hL1 hD1
    unfold FC at hc
    rw [List.toArray_cons] at hc
    refine CallsIn.mono (callsIn_wide.2 hc) ?_
    rintro e W2 ⟨v, rfl, r2, h1, h2, h3⟩
    refine ⟨_, _, run_endLoop h1 h2, ?_⟩
    have h4 := h3 (W2.putObj (w.heap.size + 1) (.loop { r2 with state := .exhausted })) agr_put (by simp)
    generalize W2.putObj (w.heap.size + 1) (.loop { r2 with state := .exhausted }) = W3 at h4 ⊢
    have hk3 : Knows ⟨m, some none, [markD w.heap.size]⟩ F { a with defers := [markD w.heap.size] ++ a.defers } := ⟨k.size, by simp [k.defers], k.slot⟩
    rcases h4 with ⟨h4 | h4, h5⟩ | ⟨h4, h5⟩
    · rw [h4]
      exact h5 _ hk3
    · rw [h4]
      refine wpIn_exit ?_
      simp only [Exit.inBlock, if_pos]
      exact h5 _ hk3
    · rw [h4]
      exact wpIn_ret (h5 _ hk3)
theorem RC.backM {m : Nat} {mk : List Deferred} {y : Code} {q : Post} {F : List (Nat × Value)} (h : RC P ⟨m, some none, mk⟩ y F w q) : ∀ a, Knows ⟨m, some none, mk⟩ F a → (fun a w => cwp ⟨m, some none, []⟩ P y q.q a w) a w := h
def recB (r : Loop) (id : Nat) (b : Bool) : Loop := { r with state := if b then .ready else .done, pending := if b then none else some (.exit id) }
theorem recB_nb {r : Loop} {id : Nat} {b : Bool} : (recB r id b).state ≠ .busy := by cases b <;> simp [recB]
theorem recB_pe {r : Loop} {id : Nat} {b : Bool} : (recB r id b).pending = none ∨ (recB r id b).pending = some (.exit id) := by cases b <;> simp [recB]
theorem recB_0 {r : Loop} {id : Nat} (h1 : r.state = .ready) (h2 : r.pending = none) : r = recB r id true := by cases r; simp_all [recB]
theorem knows1 {n : Cx} {F : List (Nat × Value)} {tmps : Array Value} {ps : Array Tmp} {t : Nat} {v : Value} (hps : ps = #[t]) (h : Knows n F { tmps := tmps, defers := [] }) (hd : inB (some t) n = true) :
    Knows n (upd F (some t) v) { tmps := (ps.zip [v].toArray).foldl (fun tmps (t, a) => tmps.setIfInBounds t a) tmps, defers := [] } := by
  subst hps
  have := h.upd (some t) v hd
  simpa [Act.put] using this
theorem RC.doneM0 {fn : Func} {R : Value → World → Prop} {rs : List ResultVar} {vs : List Value} (hrs : fn.results = rs.toArray) (hp : p.ret = (Post.fnM P fn R).ret) (hv : resVs P F w rs vs) (hR : R (tup vs) w) (hM : n.marks = [] := by rfl) : RC P n .ret F w p :=
  RC.ret fun a k => by
    rw [hp]
    refine ⟨.inl (k.defers.trans hM), ?_⟩
    rintro w' (⟨rfl, _⟩ | ⟨D, h, _⟩)
    · exact ⟨_, run_results k hrs hv, hR⟩
    · rw [k.defers.trans hM] at h; cases h
theorem RC.doneM {fn : Func} {D : Nat} {R : Value → World → Prop} {rs : List ResultVar} {vs : List Value} (hrs : fn.results = rs.toArray) (hp : p.ret = (Post.fnM P fn R).ret) (hv : ∀ w, resVs P F w rs vs) (hD : Df D w) (hR : ∀ w', Agr (· = D) w w' → w'.heap.size = w.heap.size → R (tup vs) w') (hM : n.marks = [markD D] := by rfl) : RC P n .ret F w p :=
  RC.ret fun a k => by
    rw [hp]
    refine ⟨.inr ⟨D, k.defers.trans hM, hD⟩, ?_⟩
    rintro w' (⟨_, h⟩ | ⟨D', h, e⟩)
    · rw [k.defers.trans hM] at h; cases h
    · rw [k.defers.trans hM] at h
      obtain rfl : D = D' := by
        have := (List.cons.inj h).1
        simp only [markD, Deferred.mk.injEq, Target.collected.injEq] at this
        exact this.1
      subst e
      exact ⟨_, run_results k hrs (hv _), hR _ agr_put (by simp)⟩
theorem Df.lt {D w} (h : Df D w) : D < w.heap.size := by
  unfold Df at h
  rcases Nat.lt_or_ge D w.heap.size with q | q
  · exact q
  · rw [Array.getElem?_eq_none q] at h; cases h
theorem Df.step {N : Nat → Prop} {D w w'} (h : Df D w) (k : Agr N w w') (hn : ¬ N D) : Df D w' := (k.block D h.lt hn).trans h
def Up (C : Nat → Prop) (w : World) (C' : Nat → Prop) : Prop := ∀ k, C' k → C k ∨ w.heap.size ≤ k
theorem Up.refl (C : Nat → Prop) (w : World) : Up C w C := fun _ h => .inl h
theorem Up.le {C C' : Nat → Prop} {w w1 : World} (h : Up C w1 C') (hz : w.heap.size ≤ w1.heap.size) : Up C w C' := fun k hk => (h k hk).imp id (Nat.le_trans hz)
theorem Up.trans {C C1 C2 : Nat → Prop} {w : World} (h : Up C w C1) (k : Up C1 w C2) : Up C w C2 := fun i hi => (k i hi).elim (h i) .inr
theorem Up.not {C C' : Nat → Prop} {w : World} {b : Nat} (h : Up C w C') (hb : b < w.heap.size) (hn : ¬ C b) : ¬ C' b := fun e => (h b e).elim hn (fun e => by omega)
theorem upNe {M M' : Nat → Prop} {w : World} {b : Nat} (h : Up M w M') (d : ∀ k, M k → k ≠ b) (hb : b < w.heap.size) : ∀ k, M' k → k ≠ b := fun k hk e => h.not hb (fun e' => d _ e' rfl) (e ▸ hk)
theorem upDD {M M' : Nat → Prop} {w : World} {v : Value} (h : Up M w M') (d : ∀ k, ob v = some k → M k → False) (hb : ∀ k, ob v = some k → k < w.heap.size) : ∀ k, ob v = some k → M' k → False := fun k hk => h.not (hb k hk) (d k hk)
theorem _root_.Go.XL.Agr.up {C C1 : Nat → Prop} {w w1 w2 : World} (h : Agr C w w1) (u : Up C w C1) (k : Agr C1 w1 w2) : Agr C w w2 :=
  ⟨k.os.trans h.os, k.tape.trans h.tape, k.output.trans h.output, Nat.le_trans h.size k.size, fun i hi hn =>
    (k.block i (Nat.lt_of_lt_of_le hi h.size) (u.not hi hn)).trans (h.block i hi hn)⟩
def YT {σ α : Type} (P : Program) (l : Nat) (enc : α → Value) (ok : α → Prop) (cnt : σ → Nat) (N : Nat) (H : σ → Bool → (Nat → Prop) → World → Prop) (step : σ → α → σ × Bool) : Prop :=
  ∀ (s : σ) (x : α) (C : Nat → Prop) (W : World), ok x → cnt s < N → Ft C (H s true C) W → FY P l [enc x] W (fun v w' => ∃ C', v = .bool (step s x).2 ∧ Ft C' (H (step s x).1 (step s x).2 C') w' ∧ Agr C W w' ∧ Up C W C')
def pushF {σ α : Type} (step : σ → α → σ × Bool) (s : σ) : List α → σ × Bool
  | [] => (s, true)
  | x :: xs => if (step s x).2 = true then pushF step (step s x).1 xs else ((step s x).1, false)
section
variable {σ α : Type} {step : σ → α → σ × Bool} {s : σ} {x : α}
theorem pushF_app {L R : List α} (h : (pushF step s L).2 = true) : pushF step s (L ++ R) = pushF step (pushF step s L).1 R := by
  induction L generalizing s with
  | nil => rfl
  | cons y L ih =>
    simp only [List.cons_append, pushF] at h ⊢
    by_cases q : (step s y).2 = true
    · rw [if_pos q] at h; rw [if_pos q, if_pos q]; exact ih h
    · rw [if_neg q] at h; cases h
theorem pushF_l {L R : List α} (h : (pushF step s L).2 = false) : pushF step s (L ++ R) = pushF step s L := by
  induction L generalizing s with
  | nil => simp [pushF] at h
  | cons y L ih =>
    simp only [List.cons_append, pushF] at h ⊢
    by_cases q : (step s y).2 = true
    · rw [if_pos q] at h; rw [if_pos q, if_pos q]; exact ih h
    · rw [if_neg q, if_neg q]
theorem pushF_cnt {cnt : σ → Nat} (h : ∀ s x, cnt (step s x).1 ≤ cnt s + 1) : ∀ (L : List α) (s : σ), cnt (pushF step s L).1 ≤ cnt s + L.length
  | [], s => Nat.le_refl _
  | x :: L, s => by
    have h1 := h s x
    rw [pushF]
    split
    · have := pushF_cnt h L (step s x).1
      simp only [List.length_cons]; omega
    · simp only [List.length_cons]; omega
theorem pushF_t {xs : List α} (h : (step s x).2 = true) : pushF step s (x :: xs) = pushF step (step s x).1 xs := by rw [pushF, if_pos h]
theorem pushF_f {xs : List α} (h : (step s x).2 = false) : pushF step s (x :: xs) = ((step s x).1, false) := by rw [pushF, if_neg (by simp [h])]
end
end
theorem delL_le (l : List It) (key : Int) : (delL l key).length ≤ l.length := List.length_filter_le _ _
end Go.Proofs.YtbjmllnddanniaaGreat
