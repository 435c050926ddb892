/-
  Maps whose keys are two numbers; a literal of such a map, whose entries are put in any order.
-/
import Derived.Test.YtjafbffehmombaaFacts
import Derived.ChangeKeysEq
set_option linter.unusedVariables false
set_option linter.unusedSimpArgs false
namespace Go.Proofs.Ytjafbffehmombaa
open Go Go.XL

def pk (a c : Int) : Value := .agg #[.int .i64 a, .int .i64 c]
theorem pk_inj {a b c d : Int} : pk a b = pk c d ↔ a = c ∧ b = d := by simp [pk]
/-- block b is a map; f tells what is read at two numbers -/
def HasP (w : World) (b : Nat) (f : Int → Int → Option Value) : Prop :=
  ∃ es clock, w.heap[b]? = some (.map es clock) ∧ (∀ x ∈ es.toList, ∃ a c, x.key = pk a c) ∧ ∀ a c v, f a c = some v ↔ ∃ x ∈ es.toList, x.key = pk a c ∧ x.val = v
theorem HasP.lt {w b f} (h : HasP w b f) : b < w.heap.size := by
  obtain ⟨es, c, h, _⟩ := h
  rcases Nat.lt_or_ge b w.heap.size with g | g
  · exact g
  · rw [Array.getElem?_eq_none g] at h; cases h
theorem HasP.step {N : Nat → Prop} {w w' b f} (h : HasP w b f) (k : Agr N w w') (hn : ¬ N b) : HasP w' b f := by
  obtain ⟨es, c, h1, h2⟩ := id h
  exact ⟨es, c, (k.block b h.lt hn).trans h1, h2⟩
theorem HasP.sub {w w' b f} (h : HasP w b f) (k : Sub w w') : HasP w' b f := h.step (N := fun _ => False) k.agr id
theorem HasP.upd {w w' b b' f} (h : HasP w b f) (a : Agr (· = b') w w') (hn : b ≠ b') : HasP w' b f := h.step a hn
theorem HasP.ne {w b f b'} (h : HasP w b f) (hb : b' = w.heap.size) : b ≠ b' := fun e => by have := h.lt; omega
/-- a type of two numbers -/
structure PairT (P : Program) (kt : TypeId) (f1 f2 : Field) : Prop where
  hu : P.underlying kt = some (.struct #[f1, f2])
  n1 : (f1.name != "_") = true
  n2 : (f2.name != "_") = true
  h1 : P.underlying f1.type = some (.int .i64)
  h2 : P.underlying f2.type = some (.int .i64)
  o1 : f1.offset = 0
  o2 : f2.offset = 1
  hk : flatK P 6 kt = some [some .i64, some .i64]
  hs : shapeOf P kt = some (true, 2)
section
variable {P : Program} {kt : TypeId} {f1 f2 : Field} {w : World}
theorem run_checkPair (h : PairT P kt f1 f2) (em : Bool) (n : Nat) (x y : Int) : (Instr.checkKey em (n + 2) kt (pk x y)).run P w = .ok () w := by
  have n1 : f1.name ≠ "_" := by simpa using h.n1
  have n2 : f2.name ≠ "_" := by simpa using h.n2
  have p1 : P.plainKey f1.type = true := by simp [Program.plainKey, h.h1]
  have p2 : P.plainKey f2.type = true := by simp [Program.plainKey, h.h2]
  have e1 := run_part_plain (P := P) w p1 (xs := #[.int .i64 x, .int .i64 y]) (off := f1.offset) (v := .int .i64 x) (by rw [h.o1]; rfl)
  have e2 := run_part_plain (P := P) w p2 (xs := #[.int .i64 x, .int .i64 y]) (off := f2.offset) (v := .int .i64 y) (by rw [h.o2]; rfl)
  have c1 : (Instr.checkKey em (n + 1) f1.type (.int .i64 x)).run P w = .ok () w := by simp [Instr.checkKey, run_underlying h.h1]
  have c2 : (Instr.checkKey em (n + 1) f2.type (.int .i64 y)).run P w = .ok () w := by simp [Instr.checkKey, run_underlying h.h2]
  unfold pk
  rw [Instr.checkKey]
  simp [run_underlying h.hu, n1, n2, e1, e2, c1, c2]
theorem run_equalPair (h : PairT P kt f1 f2) (a b c d : Int) : (Op.equal kt (pk a b) (pk c d)).run P w = .ok (decide (a = c ∧ b = d)) w := by
  have := run_equal_flat (P := P) (w := w) (xs := [.int .i64 a, .int .i64 b]) (ys := [.int .i64 c, .int .i64 d]) h.hk h.hs rfl rfl rfl
  refine Eq.trans this ?_
  congr 1
  rw [Bool.eq_iff_iff, decide_eq_true_iff]
  simp [eqL, eq1]
theorem run_findPair (h : PairT P kt f1 f2) (a b : Int) : ∀ (es : List MapEntry) (i : Nat), (∀ x ∈ es, ∃ a c, x.key = pk a c) →
    (∃ o, (Instr.findAsking kt (pk a b) es i).run P w = .ok o w ∧ ((o = none ∧ ∀ x ∈ es, ¬ x.key = pk a b) ∨ ∃ j x, o = some (j, x.val) ∧ x ∈ es ∧ x.key = pk a b))
  | [], i, _ => ⟨none, by simp [Instr.findAsking], .inl ⟨rfl, by simp⟩⟩
  | x :: es, i, hk => by
    obtain ⟨c, d, hx⟩ := hk x (by simp)
    have he := run_equalPair (w := w) h a b c d
    by_cases q : a = c ∧ b = d
    · refine ⟨some (i, x.val), ?_, .inr ⟨i, x, rfl, by simp, by rw [hx, q.1, q.2]⟩⟩
      rw [Instr.findAsking, hx]
      rw [run_bind, he, decide_eq_true q]
      rfl
    · obtain ⟨o, h1, h2⟩ := run_findPair h a b es (i + 1) (fun y hy => hk y (by simp [hy]))
      refine ⟨o, ?_, ?_⟩
      · rw [Instr.findAsking, hx]
        rw [run_bind, he, decide_eq_false q]
        exact h1
      · rcases h2 with ⟨h2, h3⟩ | ⟨j, y, h2, h3, h4⟩
        · refine .inl ⟨h2, fun y hy => ?_⟩
          rcases List.mem_cons.1 hy with rfl | hy
          · rw [hx]; intro e; exact q ⟨(pk_inj.1 e).1.symm, (pk_inj.1 e).2.symm⟩
          · exact h3 y hy
        · exact .inr ⟨j, y, h2, by simp [h3], h4⟩
theorem run_findKeyPair (h : PairT P kt f1 f2) (a b : Int) (es : List MapEntry) (hk : ∀ x ∈ es, ∃ a c, x.key = pk a c) :
    (∃ o, (Instr.findKey kt (pk a b) es).run P w = .ok o w ∧ ((o = none ∧ ∀ x ∈ es, ¬ x.key = pk a b) ∨ ∃ j x, o = some (j, x.val) ∧ x ∈ es ∧ x.key = pk a b)) := by
  obtain ⟨o, h1, h2⟩ := run_findPair (w := w) h a b es 0 hk
  have e : (Instr.findKey kt (pk a b) es).run P w = (Instr.findAsking kt (pk a b) es).run P w := run_findKey_eq w (by rw [h.hu]) (pk a b) es
  exact ⟨o, e.trans h1, h2⟩
end
section
variable {P : Program} {n : Cx} {F : List (Nat × Value)} {w : World} {p : Post} {ops : Array Oper} {rest : List Oper} {d : Option Tmp} {t : TypeId} {pos : String} {af : Array Edge} {g : Option (Nat × Bool)} {kt et : TypeId} {f1 f2 : Field}
theorem _root_.Go.XL.EvOp.lookupP {ty m x z b a c} {f : Int → Int → Option Value} (hm : P.underlying ty = some (.map kt et)) (hp : PairT P kt f1 f2) (hz : zeroOf P et = some z) (hx : XL.ev F m = some (.map (some b))) (hk : XL.ev F x = some (pk a c)) (h : HasP w b f) :
    EvOp P F (.lookup ty m x true) w (.tuple #[(f a c).getD z, .bool (f a c).isSome]) := fun _ _ _ _ _ ρ hρ w' s => by
  obtain ⟨es, cl, h1, h3, h4⟩ := h.sub s
  simp only [execOp, hρ m _ hx, hρ x _ hk]
  refine run_val _ ?_
  have hck := run_checkPair (P := P) (w := w') hp es.isEmpty 9998 a c
  obtain ⟨o, g1, g2⟩ := run_findKeyPair (P := P) (w := w') hp a c es.toList h3
  have hf : f a c = o.map (·.2) := by
    rcases g2 with ⟨g2, g3⟩ | ⟨j, y, g2, g3, g4⟩
    · rw [g2]
      cases hq : f a c with
      | none => rfl
      | some v => obtain ⟨y, hy, hyk, _⟩ := (h4 a c v).1 hq; exact absurd hyk (g3 y hy)
    · rw [g2]; exact (h4 a c y.val).2 ⟨y, g3, g4, rfl⟩
  rw [hf]
  cases o with
  | none => simp [Instr.lookup, Go.run_underlying hm, Go.MapKept.run_getObj_map h1, hck, g1, Result.andThen, run_zeroValue' hz]
  | some q => simp [Instr.lookup, Go.run_underlying hm, Go.MapKept.run_getObj_map h1, hck, g1, Result.andThen]
theorem RL.makeMapP {ty} (hg : gsat ops F g = some true) (hd : inB d n = true)
    (h : ∀ b w', b = w.heap.size → w'.heap.size = b + 1 → HasP w' b (fun _ _ => none) → Sub w w' → RL P n ops rest (upd F d (.map (some b))) w' p) : RL P n ops (⟨d, .makeMap ty none, t, pos, af, g⟩ :: rest) F w p := by
  refine RL.on hg hd (w' := w.alloc (.map #[] 0)) (fun ρ hρ => ?_) (h _ _ rfl (by simp) ⟨#[], 0, heap_alloc_new w _, by simp, fun a c v => by simp⟩ ⟨rfl, rfl, rfl, by simp, fun k hk => heap_alloc_old' w _ hk⟩)
  simp only [execOp]
  refine run_val _ ?_
  simp [Instr.makeMap, Result.andThen]
theorem RL.insertP {ty m x y v b a c} {f : Int → Int → Option Value} (hm : P.underlying ty = some (.map kt et)) (hp : PairT P kt f1 f2) (hx : XL.ev F m = some (.map (some b))) (hk : XL.ev F x = some (pk a c)) (hy : XL.ev F y = some v) (hb : HasP w b f) (hf : f a c = none) (hg : gsat ops F g = some true)
    (h : ∀ w', w'.heap.size = w.heap.size → HasP w' b (fun i k => if i = a ∧ k = c then some v else f i k) → Agr (· = b) w w' → RL P n ops rest F w' p) : RL P n ops (⟨none, .insert ty m x y, t, pos, af, g⟩ :: rest) F w p := by
  obtain ⟨es, cl, h1, h3, h4⟩ := hb
  have hck := run_checkPair (P := P) (w := w) hp false 9998 a c
  have agr : ∀ o, Agr (· = b) w { w with heap := w.heap.setIfInBounds b o } := fun o => ⟨rfl, rfl, rfl, by simp, fun k _ hk => (Go.MapKept.heap_set h1).2 k hk⟩
  obtain ⟨o, g1, g2⟩ := run_findKeyPair (P := P) (w := w) hp a c es.toList h3
  have ho : o = none := by
    rcases g2 with ⟨g2, _⟩ | ⟨j, y, _, g3, g4⟩
    · exact g2
    · have := (h4 a c y.val).2 ⟨y, g3, g4, rfl⟩; rw [hf] at this; cases this
  subst ho
  have g3 : ∀ x ∈ es.toList, ¬ x.key = pk a c := by
    intro y hy e
    have := (h4 a c y.val).2 ⟨y, hy, e, rfl⟩; rw [hf] at this; cases this
  refine RL.on_skip hg (w' := { w with heap := w.heap.setIfInBounds b (.map (es.push ⟨pk a c, v, cl⟩) (cl + 1)) }) (fun ρ hρ => ?_) (h _ (by simp) ⟨_, _, (Go.MapKept.heap_set h1).1, ?_, ?_⟩ (agr _))
  · simp only [execOp, hρ m _ hx, hρ x _ hk, hρ y _ hy]
    simp [Instr.mapUpdate, Go.run_underlying hm, Go.MapKept.run_getObj_map h1, hck, g1, Go.MapKept.run_setObj_map _ h1, Result.andThen]
  · intro z hz
    simp only [Array.toList_push, List.mem_append, List.mem_singleton] at hz
    rcases hz with hz | rfl
    · exact h3 z hz
    · exact ⟨a, c, rfl⟩
  · intro i k u
    simp only [Array.toList_push, List.mem_append, List.mem_singleton]
    by_cases hi : i = a ∧ k = c
    · obtain ⟨rfl, rfl⟩ := hi
      simp only [and_self, if_true, Option.some.injEq]
      constructor
      · rintro rfl; exact ⟨_, .inr rfl, rfl, rfl⟩
      · rintro ⟨z, hz | rfl, hz2, hz3⟩
        · exact absurd hz2 (g3 z hz)
        · exact hz3
    · rw [if_neg hi, h4]
      constructor
      · rintro ⟨z, hz, hz2⟩; exact ⟨z, .inl hz, hz2⟩
      · rintro ⟨z, hz | rfl, hz2, hz3⟩
        · exact ⟨z, hz, hz2, hz3⟩
        · exact absurd ⟨(pk_inj.1 hz2).1.symm, (pk_inj.1 hz2).2.symm⟩ hi
end
/-! ### a region in which what is ready may come in any order -/
section
variable {P : Program} {n : Cx} {F : List (Nat × Value)} {w : World} {p : Post} {l : List Oper} {N : Nat → Prop} {Wr : List Nat} {B : Nat}
/-- an entry of a literal: its operation's place, its key, its value -/
structure LE where
  i : Nat
  a : Int
  c : Int
  v : Value
def litF (T : List LE) (L : Array Bool) (a c : Int) : Option Value := (T.find? fun e => decide (e.a = a ∧ e.c = c) && L.getD e.i true).map (·.v)
theorem getD_true {L : Array Bool} {i j : Nat} (h : L.getD i true = false) : (L.setIfInBounds i true).getD j true = if j = i then true else L.getD j true := by
  have hi : i < L.size := by
    rcases Nat.lt_or_ge i L.size with g | g
    · exact g
    · simp [Array.getD, Nat.not_lt.2 g] at h
  simp only [Array.getD_eq_getD_getElem?, Array.getElem?_setIfInBounds]
  by_cases e : j = i
  · subst e; simp [hi]
  · simp [e, Ne.symm e]
theorem getD_truef {L : Array Bool} {i j : Nat} (h : L.getD j false = true) : (L.setIfInBounds i true).getD j false = true := by
  simp only [Array.getD_eq_getD_getElem?, Array.getElem?_setIfInBounds] at h ⊢
  by_cases e : i = j
  · subst e
    cases hq : L[i]? with
    | none => rw [hq] at h; simp at h
    | some v =>
      have hi : i < L.size := (Array.getElem?_eq_some_iff.1 hq).1
      simp [hi]
  · simp [e]; simpa using h
theorem nodup_inj {α β : Type} {f : α → β} : ∀ {l : List α}, (l.map f).Nodup → ∀ {x y : α}, x ∈ l → y ∈ l → f x = f y → x = y
  | [], _, _, _, h, _, _ => by cases h
  | z :: l, hn, x, y, hx, hy, e => by
    have hn := List.nodup_cons.1 (show (f z :: l.map f).Nodup from hn)
    rcases List.mem_cons.1 hx with rfl | hx2 <;> rcases List.mem_cons.1 hy with rfl | hy2
    · rfl
    · exact absurd (e ▸ List.mem_map_of_mem hy2) hn.1
    · exact absurd (e.symm ▸ List.mem_map_of_mem hx2) hn.1
    · exact nodup_inj hn.2 hx2 hy2 e
theorem find_congr {α : Type} {f g : α → Bool} : ∀ {l : List α}, (∀ x ∈ l, f x = g x) → l.find? f = l.find? g
  | [], _ => rfl
  | z :: l, h => by rw [List.find?_cons, List.find?_cons, h z (by simp), find_congr fun x hx => h x (by simp [hx])]
theorem lit_uniq {T : List LE} (hk : (T.map fun e => (e.a, e.c)).Nodup) {e e' : LE} (h : e ∈ T) (h' : e' ∈ T) (ha : e'.a = e.a) (hc : e'.c = e.c) : e' = e := nodup_inj hk h' h (by simp only [ha, hc])
theorem litF_new {T : List LE} (hk : (T.map fun e => (e.a, e.c)).Nodup) (hi : (T.map (·.i)).Nodup) {L : Array Bool} {e : LE} (he : e ∈ T) (hL : L.getD e.i true = false) :
    litF T L e.a e.c = none ∧ litF T (L.setIfInBounds e.i true) = fun a c => if a = e.a ∧ c = e.c then some e.v else litF T L a c := by
  constructor
  · unfold litF
    rw [List.find?_eq_none.2]
    · rfl
    intro x hx
    by_cases q : x.a = e.a ∧ x.c = e.c
    · rw [lit_uniq hk he hx q.1 q.2, hL]; simp
    · rw [decide_eq_false q]; simp
  · funext a c
    unfold litF
    by_cases q : a = e.a ∧ c = e.c
    · rw [if_pos q]
      obtain ⟨rfl, rfl⟩ := q
      cases hf : T.find? fun x => decide (x.a = e.a ∧ x.c = e.c) && (L.setIfInBounds e.i true).getD x.i true with
      | none =>
        have := List.find?_eq_none.1 hf e he
        rw [getD_true hL] at this
        simp at this
      | some y =>
        have h1 := List.find?_some hf
        have h2 := List.mem_of_find?_eq_some hf
        rw [Bool.and_eq_true, decide_eq_true_iff] at h1
        rw [lit_uniq hk he h2 h1.1.1 h1.1.2]; rfl
    · rw [if_neg q]
      congr 1
      refine find_congr (fun x hx => ?_)
      by_cases q2 : x.a = a ∧ x.c = c
      · have hne : x.i ≠ e.i := fun e2 => q (by rw [← nodup_inj hi hx he e2]; exact ⟨q2.1.symm, q2.2.symm⟩)
        rw [getD_true hL, if_neg hne]
      · rw [decide_eq_false q2]; simp
theorem cnt_set {T : List LE} (hi : (T.map (·.i)).Nodup) {L : Array Bool} {e : LE} (he : e ∈ T) (hL : L.getD e.i true = false) : (T.filter fun x => !(L.setIfInBounds e.i true).getD x.i true).length + 1 = (T.filter fun x => !L.getD x.i true).length := by
  induction T with
  | nil => cases he
  | cons x T ih =>
    have hn := List.nodup_cons.1 (show (x.i :: T.map (·.i)).Nodup from hi)
    by_cases q : x.i = e.i
    · have hno : ∀ y ∈ T, y.i ≠ e.i := fun y hy e2 => hn.1 (by rw [q, ← e2]; exact List.mem_map_of_mem hy)
      have h1 : (T.filter fun x => !(L.setIfInBounds e.i true).getD x.i true) = T.filter fun x => !L.getD x.i true := List.filter_congr fun y hy => by rw [getD_true hL, if_neg (hno y hy)]
      rw [List.filter_cons, List.filter_cons, getD_true hL, if_pos q, q, hL, h1]
      simp
    · have hm : e ∈ T := (List.mem_cons.1 he).resolve_left (fun h => q (by rw [h]))
      have := ih hn.2 hm
      rw [List.filter_cons, List.filter_cons, getD_true hL, if_neg q]
      cases L.getD x.i true <;> simp only [Bool.not_true, Bool.not_false, if_true, if_false, Bool.false_eq_true, List.length_cons] <;> omega
/-- of what is left none but the literal's entries may come, as long as one of those is left -/
def blkB (l : List Oper) (L0 : Array Bool) (is : List Nat) : Bool := (List.range L0.size).all fun i => L0.getD i true || is.contains i || match l[i]? with
  | none => true
  | some o => (o.after.any fun g => Region.binds .any g && !(L0.getD g.on false) && !(is.contains g.on)) || is.all fun j => o.after.any fun g => Region.binds .any g && g.on == j
theorem blk_of {L0 : Array Bool} {T : List LE} (h : blkB l L0 (T.map (·.i)) = true) {L : Array Bool} (hs : L.size = L0.size) (hL : ∀ j, (∀ e ∈ T, e.i ≠ j) → L[j]? = L0[j]?) (hu : ∃ e ∈ T, L.getD e.i true = false) {i : Nat} (hr : i ∈ Region.ready .any l.toArray L) : ∃ e ∈ T, e.i = i := by
  obtain ⟨hun, o, ho, hall⟩ := mem_ready.1 hr
  refine Classical.byContradiction fun hno => ?_
  have hno : ∀ e ∈ T, e.i ≠ i := fun e he e2 => hno ⟨e, he, e2⟩
  have hi : i < L.size := by
    rcases Nat.lt_or_ge i L.size with g | g
    · exact g
    · simp [Array.getD, Nat.not_lt.2 g] at hun
  have h1 := List.all_eq_true.1 h i (by rw [List.mem_range, ← hs]; exact hi)
  have hc : (T.map (·.i)).contains i = false := by
    rw [Bool.eq_false_iff]; intro e
    obtain ⟨e', he', e2⟩ := List.mem_map.1 (List.contains_iff_mem.1 e)
    exact hno e' he' e2
  have hu0 : L0.getD i true = false := by
    rw [Array.getD_eq_getD_getElem?] at hun ⊢
    rw [← hL i hno]; exact hun
  rw [hc, hu0, show l[i]? = some o by simpa using ho] at h1
  simp only [Bool.false_or, Bool.or_eq_true] at h1
  rcases h1 with h1 | h1
  · obtain ⟨g, hg, hg2⟩ := Array.any_eq_true'.1 h1
    rw [Bool.and_eq_true, Bool.and_eq_true] at hg2
    have h3 := hall g hg hg2.1.1
    have hng : ∀ e ∈ T, e.i ≠ g.on := by
      intro e he e2
      have : (T.map (·.i)).contains g.on = true := List.contains_iff_mem.2 (List.mem_map.2 ⟨e, he, e2⟩)
      rw [this] at hg2; simp at hg2
    rw [Array.getD_eq_getD_getElem?, hL g.on hng, ← Array.getD_eq_getD_getElem?] at h3
    rw [h3] at hg2; simp at hg2
  · obtain ⟨e, he, heu⟩ := hu
    have h3 := List.all_eq_true.1 h1 e.i (List.mem_map_of_mem he)
    obtain ⟨g, hg, hg2⟩ := Array.any_eq_true'.1 h3
    rw [Bool.and_eq_true, beq_iff_eq] at hg2
    have h4 := hall g hg hg2.1
    rw [hg2.2] at h4
    have : L.getD e.i true = true := by
      rw [Array.getD_eq_getD_getElem?] at h4 ⊢
      cases hq : L[e.i]? with
      | none => rfl
      | some v => rw [hq] at h4; exact h4
    rw [this] at heu; cases heu
def litL (L0 : Array Bool) (T : List LE) : Array Bool := (T.map (·.i)).foldl (fun L i => L.setIfInBounds i true) L0
theorem litL_size (L0 : Array Bool) : ∀ T : List LE, (litL L0 T).size = L0.size := by
  intro T
  unfold litL
  generalize T.map (·.i) = is
  induction is generalizing L0 with
  | nil => rfl
  | cons i is ih => rw [List.foldl_cons, ih]; simp
theorem litL_get (L0 : Array Bool) (T : List LE) (j : Nat) (hj : j < L0.size) : (litL L0 T)[j]? = if (∃ e ∈ T, e.i = j) then some true else L0[j]? := by
  have key : ∀ (is : List Nat) (L0 : Array Bool), j < L0.size → (is.foldl (fun L i => L.setIfInBounds i true) L0)[j]? = if j ∈ is then some true else L0[j]? := by
    intro is
    induction is with
    | nil => intro L0 _; simp
    | cons i is ih =>
      intro L0 hj
      rw [List.foldl_cons, ih _ (by simpa using hj), Array.getElem?_setIfInBounds]
      by_cases q : j ∈ is
      · simp [q]
      · by_cases q2 : i = j
        · subst q2; simp [hj]
        · simp [q, q2, Ne.symm q2]
  unfold litL
  rw [key _ _ hj]
  congr 1
  simp [List.mem_map]
theorem RD.lits {ty kt et : TypeId} {f1 f2 : Field} {b : Nat} (T : List LE) (L0 : Array Bool) (m0 : Nat) (hR : n.round = none) (hm : P.underlying ty = some (.map kt et)) (hp : PairT P kt f1 f2)
    (hl : ∀ e ∈ T, ∃ m x y t pos af, l[e.i]? = some ⟨none, .insert ty m x y, t, pos, af, none⟩ ∧ XL.ev F m = some (.map (some b)) ∧ XL.ev F x = some (pk e.a e.c) ∧ XL.ev F y = some e.v ∧ (af.all fun g => !Region.binds .any g || L0.getD g.on false) = true)
    (hk : (T.map fun e => (e.a, e.c)).Nodup) (hi : (T.map (·.i)).Nodup) (hblk : blkB l L0 (T.map (·.i)) = true) (hu2 : (T.all fun e => !(L0.getD e.i true)) = true) (hne : T ≠ []) (hb : HasP w b fun _ _ => none) (hB : B ≤ b)
    (h : ∀ w', HasP w' b (fun a c => (T.find? fun e => decide (e.a = a ∧ e.c = c)).map (·.v)) → Agr (· = b) w w' → RD P n l N Wr B (litL L0 T) m0 F w' p) : RD P n l N Wr B L0 (T.length + m0) F w p := by
  have hu2 : ∀ e ∈ T, L0.getD e.i true = false := fun e he => by have := List.all_eq_true.1 hu2 e he; simpa using this
  have key : ∀ (f : Nat) (L : Array Bool) (w' : World), L.size = L0.size → (∀ j, (∀ e ∈ T, e.i ≠ j) → L[j]? = L0[j]?) → (∀ i, L0.getD i false = true → L.getD i false = true) → (T.filter fun x => !L.getD x.i true).length = f → HasP w' b (litF T L) → Agr (· = b) w w' → RD P n l N Wr B L (f + m0) F w' p := by
    intro f
    induction f with
    | zero =>
      intro L w' h0 h1 h2 h3 h4 h5
      have hall : ∀ e ∈ T, L.getD e.i true = true := by
        intro e he
        have := List.length_eq_zero_iff.1 h3
        rw [List.filter_eq_nil_iff] at this
        simpa using this e he
      have e1 : litF T L = fun a c => (T.find? fun e => decide (e.a = a ∧ e.c = c)).map (·.v) := by
        funext a c
        unfold litF
        congr 1
        exact find_congr fun x hx => by rw [hall x hx, Bool.and_true]
      have e2 : L = litL L0 T := by
        refine Array.ext_getElem? (fun j => ?_)
        rcases Nat.lt_or_ge j L0.size with g | g
        · rw [litL_get L0 T j g]
          by_cases q : ∃ e ∈ T, e.i = j
          · rw [if_pos q]
            obtain ⟨e, he, rfl⟩ := q
            have := hall e he
            rw [Array.getD_eq_getD_getElem?, Array.getElem?_eq_getElem (by rw [h0]; exact g)] at this
            rw [Array.getElem?_eq_getElem (by rw [h0]; exact g)]
            exact congrArg some this
          · rw [if_neg q]; exact h1 j (fun e he e2 => q ⟨e, he, e2⟩)
        · rw [Array.getElem?_eq_none (by rw [h0]; exact g), Array.getElem?_eq_none (by rw [litL_size]; exact g)]
      rw [Nat.zero_add, e2]
      exact h w' (e1 ▸ h4) h5
    | succ f ih =>
      intro L w' h0 h1 h2 h3 h4 h5
      obtain ⟨e0, he0⟩ : ∃ e, e ∈ T.filter fun x => !L.getD x.i true := List.exists_mem_of_length_pos (by omega)
      have he1 := List.mem_filter.1 he0
      have hun0 : L.getD e0.i true = false := by simpa using he1.2
      have hrdy : e0.i ∈ Region.ready .any l.toArray L := by
        obtain ⟨m, x, y, t, pos, af, g1, _, _, _, g5⟩ := hl e0 he1.1
        refine mem_ready.2 ⟨hun0, _, by simpa using g1, fun g hg hbd => h2 _ ?_⟩
        have := Array.all_eq_true'.1 g5 g hg
        rw [hbd] at this; simpa using this
      rw [show f + 1 + m0 = (f + m0) + 1 by omega]
      intro a k
      refine ⟨fun e => absurd (e ▸ hrdy) (by simp), fun i hi2 => ?_⟩
      obtain ⟨e, he, rfl⟩ := blk_of hblk h0 h1 ⟨e0, he1.1, hun0⟩ hi2
      obtain ⟨hun, _⟩ := mem_ready.1 hi2
      obtain ⟨m, x, y, t, pos, af, g1, g2, g3, g4, g5⟩ := hl e he
      obtain ⟨n1, n2⟩ := litF_new hk hi he hun
      refine RDs.cons (is := []) g1 ?_ RDs.nil hR e.i (by simp) a k
      refine RL.insertP hm hp g2 g3 g4 h4 n1 rfl (fun w2 hs hb2 ha => RL.nil (fun a k => ⟨ha.mono fun k _ e => .inr (by rw [e]; exact hB), ih (L.setIfInBounds e.i true) w2 (by simpa using h0) ?_ (fun j hj => getD_truef (h2 j hj)) (by have := cnt_set hi he hun; omega) (by rw [n2]; exact hb2) (h5.trans ha) a k⟩))
      intro j hj
      rw [Array.getElem?_setIfInBounds, if_neg (hj e he)]
      exact h1 j hj
  refine key T.length L0 w rfl (fun _ _ => rfl) (fun _ h => h) ?_ ?_ (Agr.refl _ _)
  · rw [List.filter_eq_self.2 (fun x hx => by rw [hu2 x hx]; rfl)]
  · have : litF T L0 = fun _ _ => none := by
      funext a c
      unfold litF
      rw [List.find?_eq_none.2]
      · rfl
      intro x hx; rw [hu2 x hx]; simp
    rw [this]; exact hb
end
end Go.Proofs.Ytjafbffehmombaa
