/-
  What the law HistoryModel leans on, part 2.
-/
import Derived.Test.YtlhnnleaiinjaaaPHistoryModel1
set_option linter.unusedVariables false
set_option linter.unusedSimpArgs false
namespace Go.Proofs.Ytlhnnleaiinjaaa
open Go Go.XL
/-- all nodes that were there are as they were -/
structure Ext (A A' : Ar) : Prop where
  len : A'.nodes.length = A.nodes.length
  keep : ∀ (i : Nat) x, A.nodes[i]? = some x → ¬ x.kind = 0 → A'.nodes[i]? = some x
theorem Ext.refl (A : Ar) : Ext A A := ⟨rfl, fun _ _ h _ => h⟩
theorem Ext.trans {A B C : Ar} (h : Ext A B) (k : Ext B C) : Ext A C := ⟨k.len.trans h.len, fun i x hx hk => k.keep i x (h.keep i x hx hk) hk⟩
theorem Ext.get {A A' : Ar} {r : Int} {x : Node} (h : Ext A A') (hg : getA A r = some x) : getA A' r = some x := by
  have h1 := getA_get hg
  rw [← getA_same (A := A) (B := A') (by rw [h1.1, h.keep _ _ h1.1 h1.2])]
  exact hg
theorem make_ext {A : Ar} {x : Node} (hA : AOk A) (h : 0 < A.free.length) : Ext A (makeA A x) := by
  refine ⟨by simp [makeA], fun i y hy hk => ?_⟩
  have hin := lastAt_in hA h
  simp only [makeA]
  rw [List.getElem?_set_ne, hy]
  intro e
  have := (hA.kind i y hy).2 (by
    have h2 := List.mem_of_getElem? (lastAt_get h)
    rwa [show lastAt A = (i : Int) by omega] at h2)
  exact hk this

/-- an arena, and what is wrong -/
abbrev St := Ar × Int
/-- s' comes from s; at most n nodes were made -/
structure Gs (n : Nat) (s s' : St) : Prop where
  ext : Ext s.1 s'.1
  ok : AOk s'.1
  free : s.1.free.length ≤ s'.1.free.length + n
  stay : ¬ s.2 = 0 → s'.2 = s.2
  full : s.2 = 0 → ¬ s'.2 = 0 → s'.2 = 2 ∧ s.1.free.length < n
theorem Gs.back {n : Nat} {s s' : St} (h : Gs n s s') (h0 : s'.2 = 0) : s.2 = 0 := Classical.byContradiction fun e => e (by rw [← h.stay e]; exact h0)
theorem Gs.refl {s : St} (h : AOk s.1) : Gs 0 s s := ⟨Ext.refl _, h, Nat.le_refl _, fun _ => rfl, fun h k => absurd h k⟩
theorem Gs.mono {n m : Nat} {s s' : St} (h : Gs n s s') (hn : n ≤ m) : Gs m s s' := ⟨h.ext, h.ok, by have := h.free; omega, h.stay, fun a b => ⟨(h.full a b).1, by have := (h.full a b).2; omega⟩⟩
theorem Gs.trans {n m : Nat} {a b c : St} (h : Gs n a b) (k : Gs m b c) : Gs (n + m) a c := by
  refine ⟨h.ext.trans k.ext, k.ok, by have := h.free; have := k.free; omega, fun e => ?_, fun e e2 => ?_⟩
  · have h1 := h.stay e
    rw [k.stay (by rw [h1]; exact e), h1]
  · by_cases q : b.2 = 0
    · have h1 := k.full q e2; have h2 := h.free; exact ⟨h1.1, by omega⟩
    · have h1 := h.full e q
      exact ⟨by rw [k.stay q, h1.1], by omega⟩
/-- the size that a node tells -/
def sizeA (A : Ar) (r : Int) : Int := match getA A r with
  | none => 0
  | some y => y.s
/-- one node is made -/
def MkX (s : St) (x : Node) (s' : St) (r : Int) : Prop :=
  (¬ s.2 = 0 ∧ s' = s ∧ r = 0) ∨ (s.2 = 0 ∧ mayMake s.1 x ∧ 0 < s.1.free.length ∧ s' = (makeA s.1 x, 0) ∧ r = makeR s.1) ∨
  (s.2 = 0 ∧ mayMake s.1 x ∧ s.1.free.length = 0 ∧ s' = (s.1, 2) ∧ r = 0) ∨ (s.2 = 0 ∧ ¬ mayMake s.1 x ∧ s' = (s.1, 1) ∧ r = 0)
theorem MkX.gs {s s' : St} {x : Node} {r : Int} (h : MkX s x s' r) (hA : AOk s.1) (hm : s.2 = 0 → mayMake s.1 x) : Gs 1 s s' := by
  rcases h with ⟨h0, rfl, rfl⟩ | ⟨h0, hm, hf, rfl, rfl⟩ | ⟨h0, hm, hf, rfl, rfl⟩ | ⟨h0, hn, rfl, rfl⟩
  · exact (Gs.refl hA).mono (by omega)
  · refine ⟨make_ext hA hf, make_ok hm hf, ?_, fun e => absurd h0 e, fun _ e => absurd rfl e⟩
    simp only [makeA, List.length_take]; omega
  · exact ⟨Ext.refl _, hA, by omega, fun e => absurd h0 e, fun _ _ => ⟨rfl, by omega⟩⟩
  · exact absurd (hm h0) hn
theorem MkX.u64 {s s' : St} {x : Node} {r : Int} (h : MkX s x s' r) : U64 r := by
  rcases h with ⟨_, _, rfl⟩ | ⟨_, hm, hf, _, rfl⟩ | ⟨_, _, _, _, rfl⟩ | ⟨_, _, _, rfl⟩
  · unfold U64; decide
  · exact ofR_U64 (make_isR hm.1 hf)
  · unfold U64; decide
  · unfold U64; decide
theorem MkX.get {s s' : St} {x : Node} {r : Int} (h : MkX s x s' r) (h0 : s'.2 = 0) : s.2 = 0 ∧ mayMake s.1 x ∧ 0 < s.1.free.length ∧ getA s'.1 r = some { x with gen := genAt s.1 (lastAt s.1) } ∧ Ext s.1 s'.1 := by
  rcases h with ⟨h1, rfl, rfl⟩ | ⟨h1, hm, hf, rfl, rfl⟩ | ⟨_, _, _, rfl, _⟩ | ⟨_, _, rfl, _⟩
  · exact absurd h0 h1
  · exact ⟨h1, hm, hf, get_made hm hf, make_ext hm.1 hf⟩
  · exact absurd h0 (show ¬ (2 : Int) = 0 by decide)
  · exact absurd h0 (show ¬ (1 : Int) = 0 by decide)
/-- what is free later was free before -/
def Fr (A B : Ar) : Prop := ∀ p ∈ B.free, p ∈ A.free
theorem MkX.fr {s s' : St} {x : Node} {r : Int} (h : MkX s x s' r) : Fr s.1 s'.1 := by
  rcases h with ⟨h1, rfl, rfl⟩ | ⟨h1, hm, hf, rfl, rfl⟩ | ⟨_, _, _, rfl, _⟩ | ⟨_, _, rfl, _⟩
  · exact fun p hp => hp
  · exact fun p hp => List.mem_of_mem_take hp
  · exact fun p hp => hp
  · exact fun p hp => hp
def wvC (na fa : Option Addr) (nc fc : Nat) (A : Ar) (bad : Int) : List Value := [.slice na A.nodes.length nc, .slice fa A.free.length fc, .int .i64 bad]
def FoG (ty : TypeId) (b : Nat) (s : St) (C : Nat → Prop) (u : World) : Prop :=
  C b ∧ ∃ na fa nc fc M, Has u b (wvC na fa nc fc s.1 s.2) ty ∧ s.1.nodes.length ≤ nc ∧ s.1.free.length ≤ fc ∧ Ft M (fun u => ArR u na fa s.1) u ∧ ¬ M b ∧ ∀ k, M k → C k
theorem FoG.ft {ty : TypeId} {b : Nat} {s : St} {M : Nat → Prop} {w : World} {na fa : Option Addr} {nc fc : Nat} (h : Has w b (wvC na fa nc fc s.1 s.2) ty) (h1 : s.1.nodes.length ≤ nc) (h2 : s.1.free.length ≤ fc) (h3 : Ft M (fun u => ArR u na fa s.1) w) (h4 : ¬ M b) :
    Ft (fun k => k = b ∨ M k) (FoG ty b s (fun k => k = b ∨ M k)) w :=
  ⟨fun k hk => hk.elim (fun e => e ▸ h.lt) (h3.lt k), fun u a => ⟨.inl rfl, na, fa, nc, fc, M, h.step a (fun hn => hn (.inl rfl)), h1, h2, h3.step a (fun k hk hn => hn (.inr hk)), h4, fun k hk => .inr hk⟩⟩
theorem FoG.nok {ty : TypeId} {b : Nat} {s : St} {C : Nat → Prop} {u : World} (h : FoG ty b s C u) : ∀ x ∈ s.1.nodes, x.ok := by
  obtain ⟨_, na, fa, nc, fc, M, _, _, _, h, _⟩ := h
  exact h.now.nok
/-- the first i of the free places of a built arena -/
def freeB (size i : Nat) : List Int := (List.range i).map fun (j : Nat) => (size : Int) - 1 - j
theorem row_set0 {w : World} {b : Nat} {e : TypeId} {sz : Nat} {rows : List (List Value)} {r : List Value} {i : Nat} (h : Has w b (splice rows.flatten (i * sz) r) e) (hl : ∀ r ∈ rows, r.length = sz) (hi : i < rows.length) (hr : r.length = sz) : Has w b (rows.set i r).flatten e := by
  have := Has.row_set (extra := []) (rows := rows) (i := i) (sz := sz) (r := r) (by rw [List.append_nil]; exact h) hl hi hr
  rw [List.append_nil] at this
  exact this
theorem slDrop {w : World} {a : Option Addr} {sz : Nat} {rows : List (List Value)} (h : Sl w a sz rows) (k : Nat) {c : Nat} (hc : rows.length ≤ c) : Sl w (if c = k then a else a.map (·.add (k * sz))) sz (rows.drop k) := by
  by_cases e : c = k
  · rw [if_pos e, List.drop_eq_nil_of_le (by omega)]; exact Sl.nil _ _ _
  · rw [if_neg e]
    refine ⟨fun hne => ?_, fun i r hr => ?_⟩
    · have := h.some (by intro e2; rw [e2] at hne; simp at hne)
      cases a with
      | none => simp at this
      | some x => rfl
    · rw [List.getElem?_drop] at hr
      have h1 := h.row (k + i) r hr
      have := h.some (by intro e2; rw [e2] at hr; simp at hr)
      cases a with
      | none => simp at this
      | some x =>
        simp only [Option.map_some, Option.getD_some] at h1 ⊢
        rw [add_add, ← Nat.add_mul]
        exact h1
theorem slTakeM {α : Type} {w : World} {a : Option Addr} {sz : Nat} {f : α → List Value} {l : List α} (h : Sl w a sz (l.map f)) (k : Nat) : Sl w a sz ((l.take k).map f) := by rw [List.map_take]; exact h.take k
theorem slDropM {α : Type} {w : World} {a : Option Addr} {sz : Nat} {f : α → List Value} {l : List α} (h : Sl w a sz (l.map f)) (k : Nat) {c : Nat} (hc : l.length ≤ c) : Sl w (if c = k then a else a.map (·.add (k * sz))) sz ((l.drop k).map f) := by rw [List.map_drop]; exact slDrop h k (by rw [List.length_map]; exact hc)
end Go.Proofs.Ytlhnnleaiinjaaa
set_option linter.unusedVariables false
set_option linter.unusedSimpArgs false
namespace Go.Proofs.Ytlhnnleaiinjaaa
open Go Go.XL
theorem srt_iff {l : List It} : Srt l ↔ ∀ i, i + 1 < l.length → kAt l i < kAt l (i + 1) := by
  have kk : ∀ i (h : i < l.length), kAt l i = l[i].k := fun i h => kAt_get (List.getElem?_eq_getElem h)
  constructor
  · intro h i hi
    rw [kk i (by omega), kk (i + 1) hi]
    exact List.pairwise_iff_getElem.1 h i (i + 1) (by omega) hi (by omega)
  · intro h
    refine List.pairwise_iff_getElem.2 fun i j hi hj hij => ?_
    have key : ∀ d, i + 1 + d < l.length → kAt l i < kAt l (i + 1 + d) := by
      intro d
      induction d with
      | zero => intro hd; exact h i hd
      | succ d ih => intro hd; have h1 := ih (by omega); have h2 := h (i + 1 + d) hd; rw [show i + 1 + d + 1 = i + 1 + (d + 1) by omega] at h2; omega
    have := key (j - i - 1) (by omega)
    rw [show i + 1 + (j - i - 1) = j by omega, kk i hi, kk j hj] at this
    exact this
end Go.Proofs.Ytlhnnleaiinjaaa
set_option linter.unusedVariables false
set_option linter.unusedSimpArgs false
namespace Go.Proofs.Ytlhnnleaiinjaaa
open Go Go.XL
theorem it_rows {l : List It} : ∀ r ∈ l.map It.cells, r.length = 2 := fun r hr => by obtain ⟨x, _, rfl⟩ := List.mem_map.1 hr; rfl
def putStep (key v : Int) (s : List It × Bool) (x : It) : List It × Bool :=
  (if x.k = key then (if s.2 = false ∧ key ≤ x.k then s.1 ++ [⟨key, v⟩] else s.1) else (if s.2 = false ∧ key ≤ x.k then s.1 ++ [⟨key, v⟩] else s.1) ++ [x], s.2 || decide (key ≤ x.k))
def putS (l : List It) (key v : Int) : Nat → List It × Bool
  | 0 => ([], false)
  | i + 1 => putStep key v (putS l key v i) (l.getD i it0)
def putR (l : List It) (key v : Int) : List It := if (putS l key v l.length).2 then (putS l key v l.length).1 else (putS l key v l.length).1 ++ [⟨key, v⟩]
theorem putStep_len {key v : Int} {s : List It × Bool} {x : It} {i : Nat} (h : s.1.length ≤ i + (if s.2 then 1 else 0)) : (putStep key v s x).1.length ≤ i + 1 + (if (putStep key v s x).2 then 1 else 0) := by
  obtain ⟨o, d⟩ := s
  simp only [putStep] at h ⊢
  by_cases h2 : key ≤ x.k
  · rw [decide_eq_true h2, Bool.or_true, if_pos rfl]
    cases d <;> simp only [Bool.false_eq_true, if_false, if_true, true_and, false_and] at h ⊢
    · rw [if_pos h2]; split <;> simp <;> omega
    · split <;> simp <;> omega
  · rw [decide_eq_false h2, Bool.or_false]
    cases d <;> simp only [Bool.false_eq_true, if_false, if_true, true_and, false_and] at h ⊢
    · rw [if_neg h2]; split <;> simp <;> omega
    · split <;> simp <;> omega
theorem putS_len (l : List It) (key v : Int) : ∀ i, (putS l key v i).1.length ≤ i + (if (putS l key v i).2 then 1 else 0)
  | 0 => by simp [putS]
  | i + 1 => putStep_len (putS_len l key v i)
theorem putS_step {l : List It} {key v : Int} {i : Nat} {x : It} (h : l[i]? = some x) : putS l key v (i + 1) = (if x.k = key then (if (putS l key v i).2 = false ∧ key ≤ x.k then (putS l key v i).1 ++ [⟨key, v⟩] else (putS l key v i).1) else (if (putS l key v i).2 = false ∧ key ≤ x.k then (putS l key v i).1 ++ [⟨key, v⟩] else (putS l key v i).1) ++ [x], (putS l key v i).2 || decide (key ≤ x.k)) := by
  have : l.getD i it0 = x := by rw [List.getD_eq_getElem?_getD, h]; rfl
  rw [putS, this, putStep]
theorem putS_srt {l : List It} (hs : Srt l) (key v : Int) : ∀ i, i ≤ l.length → (putS l key v i).2 = (l.take i).any (fun x => decide (key ≤ x.k)) ∧ (putS l key v i).1 = (l.take i).filter (fun x => decide (x.k < key)) ++ (if (putS l key v i).2 then ⟨key, v⟩ :: (l.take i).filter (fun x => decide (key < x.k)) else [])
  | 0, _ => by simp [putS]
  | i + 1, hi => by
    obtain ⟨x, hx⟩ := getSome (l := l) (i := i) (by omega)
    obtain ⟨h1, h2⟩ := putS_srt hs key v i (by omega)
    have ht : l.take (i + 1) = l.take i ++ [x] := by rw [List.take_add_one, hx]; rfl
    rw [putS_step hx, ht, h1]
    simp only [List.any_append, List.any_cons, List.any_nil, Bool.or_false, List.filter_append, List.filter_cons, List.filter_nil]
    refine ⟨trivial, ?_⟩
    rw [h1] at h2
    have hlow : ∀ y ∈ l.take i, y.k < x.k := fun y hy => by
      obtain ⟨j, hj⟩ := List.getElem?_of_mem hy
      have hjl := lt_of_get hj
      rw [List.length_take] at hjl
      rw [List.getElem?_take_of_lt (by omega)] at hj
      have := List.pairwise_iff_getElem.1 hs j i (by omega) (by omega) (by omega)
      rw [getElem_of hj, getElem_of hx] at this
      exact this
    cases ha : (l.take i).any (fun x => decide (key ≤ x.k)) with
    | false =>
      rw [ha] at h2
      simp only [Bool.false_eq_true, if_false, List.append_nil] at h2
      simp only [true_and, Bool.false_or]
      rw [h2]
      have hno : (l.take i).filter (fun x => decide (key < x.k)) = [] := by
        rw [List.filter_eq_nil_iff]
        intro y hy
        have := List.any_eq_false.1 ha y hy
        simp only [decide_eq_true_eq] at this ⊢
        omega
      rw [hno]
      by_cases e1 : x.k = key
      · rw [if_pos e1, if_pos (by omega), decide_eq_false (show ¬ x.k < key by omega), decide_eq_true (show key ≤ x.k by omega), decide_eq_false (show ¬ key < x.k by omega)]
        simp
      · rw [if_neg e1]
        by_cases e2 : key ≤ x.k
        · rw [if_pos e2, decide_eq_false (show ¬ x.k < key by omega), decide_eq_true e2, decide_eq_true (show key < x.k by omega)]
          simp
        · rw [if_neg e2, decide_eq_true (show x.k < key by omega), decide_eq_false e2]
          simp
    | true =>
      rw [ha] at h2
      simp only [if_true] at h2
      obtain ⟨y, hy, hyk⟩ := List.any_eq_true.1 ha
      have hyk := of_decide_eq_true hyk
      have := hlow y hy
      simp only [Bool.true_or, if_true]
      rw [if_neg (by omega), if_neg (by rintro ⟨e, _⟩; cases e), h2, decide_eq_false (show ¬ x.k < key by omega), decide_eq_true (show key < x.k by omega)]
      simp
theorem putR_srt {l : List It} (hs : Srt l) (key v : Int) : putR l key v = l.filter (fun x => decide (x.k < key)) ++ ⟨key, v⟩ :: l.filter (fun x => decide (key < x.k)) := by
  obtain ⟨h1, h2⟩ := putS_srt hs key v l.length (Nat.le_refl _)
  rw [List.take_length] at h1 h2
  unfold putR
  rw [h2, h1]
  cases ha : l.any (fun x => decide (key ≤ x.k)) with
  | true => rfl
  | false =>
    have hno : l.filter (fun x => decide (key < x.k)) = [] := by
      rw [List.filter_eq_nil_iff]
      intro y hy
      have := List.any_eq_false.1 ha y hy
      simp only [decide_eq_true_eq] at this ⊢
      omega
    rw [hno]; simp
theorem c_refPut (l : List It) (a : Option Addr) (c m : Nat) (hm : m = l.length) (key v : Int) (w : World) (hl : Sl w a 2 (l.map It.cells)) (hb : l.length ≤ 1000000) :
    FC Try.prog 43 [.slice a m c, .int .i64 key, .int .i64 v] w (fun u w' => ∃ a' c', u = .slice a' ((putR l key v).map It.cells).length c' ∧ Ows w.heap.size w' 82 2 (.slice a' ((putR l key v).map It.cells).length c') ((putR l key v).map It.cells) ∧ Sub w w') := by
  subst hm
  have hpl := putS_len l key v
  refine FC.intro Try.func43 rfl Try.ntmps43 rfl ?_
  have S := Sub.refl w
  refine RC.seq ?_
  refine RC.region rfl ?_
  refine RL.ev (.assign rfl) rfl rfl ?_
  refine RL.nil (RC.back ?_)
  refine RC.seq ?_
  refine RC.region rfl ?_
  refine RL.buildSlice0 sl35 rfl rfl (fun b_11 w_11 e_11 z_11 hb_11 s_11 => ?_)
  have ge_11 := S.le e_11
  have S := S.trans s_11
  refine RL.ev (.assign rfl) rfl rfl ?_
  refine RL.nil (RC.back ?_)
  refine RC.seq ?_
  refine RC.region rfl ?_
  refine RL.ev (.assign rfl) rfl rfl ?_
  refine RL.nil (RC.back ?_)
  refine RC.seq ?_
  refine RC.seq ?_
  refine RC.region rfl ?_
  refine RL.ev (.move rfl) rfl rfl ?_
  refine RL.ev (.len sl35 rfl) rfl rfl ?_
  refine RL.ev (.move rfl) rfl rfl ?_
  refine RL.nil (RC.back ?_)
  refine RC.block ?_
  refine RC.loop (α := Nat × List It × Bool × Option Addr × Nat × Nat) (fun x => [(1, .int .i64 key), (2, .int .i64 v), (7, .slice x.2.2.2.1 x.2.2.2.2.1 x.2.2.2.2.2), (8, .bool x.2.2.1), (12, .slice a l.length c), (13, .int .i64 (l.length : Int)), (14, .int .i64 (x.1 : Int))]) (fun x w1 => (x.1 ≤ l.length ∧ putS l key v x.1 = (x.2.1, x.2.2.1)) ∧ Ows w.heap.size w1 82 2 (.slice x.2.2.2.1 x.2.2.2.2.1 x.2.2.2.2.2) (x.2.1.map It.cells) ∧ Sub w w1) (fun x => l.length - x.1) (0, [], false, some ⟨b_11, 0, none⟩, 0, 0) (keep_of (by repeat (first | exact trivial | refine And.intro rfl ?_))) (⟨⟨Nat.zero_le _, rfl⟩, Ows.lit0 hb_11 (by omega), S⟩) (fun x w1 hJ => ?_)
  obtain ⟨i, o, d, ao, mo, co⟩ := x; obtain ⟨⟨hi, hp⟩, o7, S⟩ := hJ; simp only [] at hi hp o7; obtain rfl := o7.sl.2; have hol := hpl i; rw [hp] at hol; simp only [] at hol; have hol2 : o.length ≤ i + 1 := Nat.le_trans hol (by split <;> omega); have szB := S.size
  refine RC.seq ?_
  refine RC.region rfl ?_
  refine RL.ev (.bin rfl rfl rfl) rfl rfl ?_
  refine RL.nil (RC.back ?_)
  refine RC.seq ?_
  refine RC.cond_dec rfl (fun h2 => ?_) (fun h2 => ?_)
  ·
    obtain ⟨x, hx⟩ := getSome (l := l) (i := i) (by omega)
    have hst := putS_step (key := key) (v := v) hx
    rw [hp] at hst
    simp only [] at hst
    refine RC.skip (RC.back ?_)
    refine RC.seq ?_
    refine RC.block ?_
    refine RC.seq ?_
    refine RC.region rfl ?_
    refine RL.ev (.indexS sl35 rfl rfl (by omega) (hl.is (i := 0) (by simp only [List.length_map, List.length_cons, List.length_nil]; omega))) rfl rfl ?_
    refine RL.ev (.loadR (x.cells) sh82 rfl ((hl.sub S).rowAt (enc := It.cells) (i := i) hx) rfl) rfl rfl ?_
    refine RL.alloc ze82 rfl rfl (fun b_10 w_10 e_10 z_10 hb_10 s_10 => ?_)
    have ge_10 := S.le e_10
    have d_o7_b_10 := o7.neNew e_10
    have S := S.trans s_10
    have o7 := o7.sub s_10
    have szB := Nat.le_trans szB s_10.size
    refine RL.store sh82 rfl rfl rfl hb_10 (by exact Nat.le_of_ble_eq_true rfl) (by rfl) rfl (fun w3 z3 hb_10 a3 => ?_)
    have S := S.upd a3 ge_10
    have o7 := o7.updD a3 d_o7_b_10
    have szB := Nat.le_trans szB a3.size
    have hb_10 : Has w3 b_10 (x.cells) _ := hb_10.now (by kernel_rfl)
    refine RL.nil (RC.back ?_)
    refine RC.cutx (α := List It × Bool × Option Addr × Nat × Nat) (fun y_ => [(1, .int .i64 key), (2, .int .i64 v), (7, .slice y_.2.2.1 y_.2.2.2.1 y_.2.2.2.2), (8, .bool y_.2.1), (10, .pointer (some ⟨b_10, 0, none⟩)), (12, .slice a l.length c), (13, .int .i64 (l.length : Int)), (14, .int .i64 (i : Int))]) (fun y_ w4 => (y_.1 = (if d = false ∧ key ≤ x.k then o ++ [⟨key, v⟩] else o) ∧ y_.2.1 = (d || decide (key ≤ x.k)) ∧ y_.1.length ≤ i + 2) ∧ Ows w.heap.size w4 82 2 (.slice y_.2.2.1 y_.2.2.2.1 y_.2.2.2.2) (y_.1.map It.cells) ∧ Has w4 b_10 x.cells 82 ∧ (∀ k, ob (.slice y_.2.2.1 y_.2.2.2.1 y_.2.2.2.2) = some k → k ≠ b_10) ∧ Sub w w4) ?_ (fun y_ w4 hJ => ?_)
    ·
      refine RC.seq ?_
      refine RC.region rfl ?_
      refine RL.ev (.move rfl) rfl rfl ?_
      refine RL.ev (.not rfl) rfl rfl ?_
      refine RL.ev (.move rfl) rfl rfl ?_
      refine RL.splitB 20 rfl (fun h5 => ?_) (fun h5 => ?_)
      ·
        have hd : d = false := (by simpa using h5)
        refine RL.ev (.field0 fo82_0 rfl) rfl rfl ?_
        refine RL.ev (.load1 sh2 rfl (hb_10.cell rfl)) rfl rfl ?_
        refine RL.ev (.move rfl) rfl rfl ?_
        refine RL.ev (.bin rfl rfl rfl) rfl rfl ?_
        refine RL.ev (.pick_t rfl rfl) rfl rfl ?_
        refine RL.nil (RC.back ?_)
        refine RC.cond_dec rfl (fun h6 => ?_) (fun h6 => ?_)
        ·
          have hk := h6
          refine RC.seq ?_
          refine RC.region rfl ?_
          refine RL.ev (.move rfl) rfl rfl ?_
          refine RL.ev (.move rfl) rfl rfl ?_
          refine RL.ev (.move rfl) rfl rfl ?_
          refine RL.ev (.buildS ze82 pl82 rfl rfl) rfl rfl ?_
          refine RL.buildSlice1 sl35 _ ze82 rfl rfl rfl rfl rfl rfl rfl (fun b_30 w_30 e_30 z_30 hb_30 s_30 => ?_)
          have ge_30 := S.le e_30
          have n_10__30 := hb_10.ne e_30
          have d_o7_b_30 := o7.neNew e_30
          have S := S.trans s_30
          have o7 := o7.sub s_30
          have szB := Nat.le_trans szB s_30.size
          have hb_10 := hb_10.sub s_30
          have sz_31 := S.size
          have ltb_10_31 := hb_10.lt
          have ltb_30_31 := hb_30.lt
          refine RL.append2 (base := w.heap.size) (rows := o.map It.cells) (news := [_]) sl35 ze82 rfl rfl rfl rfl (.inl o7) (Has.slOne hb_30) rfl (by intro r hr; rw [List.mem_singleton] at hr; subst hr; rfl) rfl (by (try simp only [List.length_map, List.length_nil, List.length_append, List.length_cons]); omega) (by (try simp only [List.length_map, List.length_nil, List.length_append, List.length_cons]); omega) (by omega) rfl rfl (fun v_31 w_31 hc_31 ho_31 ag_31 ob_31 => ?_)
          have o31 := ho_31 (.inl (by simp))
          rw [show _ ++ [_] = ((o ++ [(⟨key, v⟩ : It)]).map It.cells) from by rw [List.map_append]; rfl] at o31
          have d_o31_b_10 := obNe ob_31 d_o7_b_10 hb_10.lt
          have S := S.agrN ag_31 (fun k e => Nat.le_trans (by omega) e.2)
          have szB := Nat.le_trans szB ag_31.size
          have hb_10 := hb_10.step ag_31 (fun e => d_o7_b_10 _ e.1 rfl)
          obtain ⟨a_31, c_31, rfl, k_31⟩ := o31.form
          refine RL.ev (.assign rfl) rfl rfl ?_
          refine RL.nil (RC.back ?_)
          refine RC.region rfl ?_
          refine RL.ev (.assign rfl) rfl rfl ?_
          exact RL.nil (fun a ka => ⟨(o ++ [⟨key, v⟩], true, a_31, _, c_31), ⟨⟨by rw [if_pos ⟨hd, hk⟩], by rw [decide_eq_true hk, Bool.or_true], by simp; omega⟩, o31, hb_10, d_o31_b_10, S⟩, ka.keep (keep_of (by repeat (first | exact trivial | refine And.intro rfl ?_)))⟩)
        ·
          have hk := h6
          exact RC.skip (fun a ka => ⟨(o, d, ao, _, co), ⟨⟨by rw [if_neg (fun e => hk e.2)], by rw [decide_eq_false hk, Bool.or_false], by simp; omega⟩, o7, hb_10, d_o7_b_10, S⟩, ka.keep (keep_of (by repeat (first | exact trivial | refine And.intro rfl ?_)))⟩)
      ·
        have hd : d = true := (by simpa using h5)
        refine RL.off rfl rfl ?_
        refine RL.off rfl rfl ?_
        refine RL.off rfl rfl ?_
        refine RL.off rfl rfl ?_
        refine RL.ev (.pick_f rfl rfl) rfl rfl ?_
        refine RL.nil (RC.back ?_)
        refine RC.cond_f rfl ?_
        exact RC.skip (fun a ka => ⟨(o, d, ao, _, co), ⟨⟨by rw [if_neg (fun e => by rw [hd] at e; cases e.1)], by rw [hd]; rfl, by simp; omega⟩, o7, hb_10, d_o7_b_10, S⟩, ka.keep (keep_of (by repeat (first | exact trivial | refine And.intro rfl ?_)))⟩)
    obtain ⟨o1, d1, a1, m1, c1⟩ := y_
    obtain ⟨⟨ho1, hd1, hl1⟩, o7, hb_10, d7, S⟩ := hJ
    simp only [] at ho1 hd1 hl1 o7 d7
    obtain rfl := o7.sl.2
    rw [← ho1, ← hd1] at hst
    have szB := S.size
    refine RC.seq ?_
    refine RC.region rfl ?_
    refine RL.ev (.field0 fo82_0 rfl) rfl rfl ?_
    refine RL.ev (.load1 sh2 rfl (hb_10.cell rfl)) rfl rfl ?_
    refine RL.ev (.move rfl) rfl rfl ?_
    refine RL.ev (.bin rfl rfl rfl) rfl rfl ?_
    refine RL.nil (RC.back ?_)
    refine RC.cond_dec rfl (fun h7 => ?_) (fun h7 => ?_)
    ·
      have hne := h7
      refine RC.region rfl ?_
      refine RL.ev (.move rfl) rfl rfl ?_
      refine RL.ev (.loadR (x.cells) sh82 rfl hb_10.row rfl) rfl rfl ?_
      refine RL.buildSlice1 sl35 _ ze82 rfl rfl rfl rfl rfl rfl rfl (fun b_38 w_38 e_38 z_38 hb_38 s_38 => ?_)
      have ge_38 := S.le e_38
      have n_10__38 := hb_10.ne e_38
      have d_o7_b_38 := o7.neNew e_38
      have S := S.trans s_38
      have hb_10 := hb_10.sub s_38
      have o7 := o7.sub s_38
      have szB := Nat.le_trans szB s_38.size
      have sz_39 := S.size
      have ltb_10_39 := hb_10.lt
      have ltb_38_39 := hb_38.lt
      refine RL.append2 (base := w.heap.size) (rows := o1.map It.cells) (news := [_]) sl35 ze82 rfl rfl rfl rfl (.inl o7) (Has.slOne hb_38) rfl (by intro r hr; rw [List.mem_singleton] at hr; subst hr; rfl) rfl (by (try simp only [List.length_map, List.length_nil, List.length_append, List.length_cons]); omega) (by (try simp only [List.length_map, List.length_nil, List.length_append, List.length_cons]); omega) (by omega) rfl rfl (fun v_39 w_39 hc_39 ho_39 ag_39 ob_39 => ?_)
      have o39 := ho_39 (.inl (by simp))
      rw [show _ ++ [_] = ((o1 ++ [x]).map It.cells) from by rw [List.map_append]; rfl] at o39
      have d_o39_b_10 := obNe ob_39 d7 hb_10.lt
      have S := S.agrN ag_39 (fun k e => Nat.le_trans (by omega) e.2)
      have hb_10 := hb_10.step ag_39 (fun e => d7 _ e.1 rfl)
      have szB := Nat.le_trans szB ag_39.size
      obtain ⟨a_39, c_39, rfl, k_39⟩ := o39.form
      refine RL.ev (.assign rfl) rfl rfl ?_
      refine RL.nil (RC.back ?_)
      refine RC.region rfl ?_
      refine RL.ev (.as (.bin rfl rfl rfl) (wi64 (y := ((i + 1 : Nat) : Int)) (by omega) (by omega))) rfl rfl ?_
      refine RL.ev (.move rfl) rfl rfl ?_
      exact RL.nil (fun a ka => ⟨(i + 1, o1 ++ [x], d1, a_39, _, c_39), ⟨⟨by omega, by rw [hst, if_neg hne]⟩, o39, S⟩, by omega, ka.keep (keep_of (by repeat (first | exact trivial | refine And.intro rfl ?_)))⟩)
    ·
      have hne := Decidable.not_not.1 h7
      refine RC.skip (RC.back ?_)
      refine RC.region rfl ?_
      refine RL.ev (.as (.bin rfl rfl rfl) (wi64 (y := ((i + 1 : Nat) : Int)) (by omega) (by omega))) rfl rfl ?_
      refine RL.ev (.move rfl) rfl rfl ?_
      exact RL.nil (fun a ka => ⟨(i + 1, o1, d1, a1, _, c1), ⟨⟨by omega, by rw [hst, if_pos hne]⟩, o7, S⟩, by omega, ka.keep (keep_of (by repeat (first | exact trivial | refine And.intro rfl ?_)))⟩)
  ·
    obtain rfl : i = l.length := (by omega)
    refine RC.exit rfl (RC.back ?_)
    refine RC.seq ?_
    refine RC.seq ?_
    refine RC.region rfl ?_
    refine RL.ev (.move rfl) rfl rfl ?_
    refine RL.ev (.not rfl) rfl rfl ?_
    refine RL.nil (RC.back ?_)
    refine RC.cond rfl (fun h8 => ?_) (fun h8 => ?_)
    ·
      have hd : d = false := (by simpa using h8)
      have hres : putR l key v = o ++ [⟨key, v⟩] := (by rw [putR, hp, hd]; rfl)
      refine RC.region rfl ?_
      refine RL.ev (.move rfl) rfl rfl ?_
      refine RL.ev (.move rfl) rfl rfl ?_
      refine RL.ev (.move rfl) rfl rfl ?_
      refine RL.ev (.buildS ze82 pl82 rfl rfl) rfl rfl ?_
      refine RL.buildSlice1 sl35 _ ze82 rfl rfl rfl rfl rfl rfl rfl (fun b_47 w_47 e_47 z_47 hb_47 s_47 => ?_)
      have ge_47 := S.le e_47
      have d_o7_b_47 := o7.neNew e_47
      have S := S.trans s_47
      have o7 := o7.sub s_47
      have szB := Nat.le_trans szB s_47.size
      have sz_48 := S.size
      have ltb_47_48 := hb_47.lt
      refine RL.append2 (base := w.heap.size) (rows := o.map It.cells) (news := [_]) sl35 ze82 rfl rfl rfl rfl (.inl o7) (Has.slOne hb_47) rfl (by intro r hr; rw [List.mem_singleton] at hr; subst hr; rfl) rfl (by (try simp only [List.length_map, List.length_nil, List.length_append, List.length_cons]); omega) (by (try simp only [List.length_map, List.length_nil, List.length_append, List.length_cons]); omega) (by omega) rfl rfl (fun v_48 w_48 hc_48 ho_48 ag_48 ob_48 => ?_)
      have o48 := ho_48 (.inl (by simp))
      rw [show _ ++ [_] = ((o ++ [(⟨key, v⟩ : It)]).map It.cells) from by rw [List.map_append]; rfl] at o48
      have S := S.agrN ag_48 (fun k e => Nat.le_trans (by omega) e.2)
      have szB := Nat.le_trans szB ag_48.size
      obtain ⟨a_48, c_48, rfl, k_48⟩ := o48.form
      refine RL.ev (.assign rfl) rfl rfl ?_
      refine RL.nil (RC.back ?_)
      refine RC.seq ?_
      refine RC.region rfl ?_
      refine RL.ev (.move rfl) rfl rfl ?_
      refine RL.ev (.assign rfl) rfl rfl ?_
      refine RL.nil (RC.back ?_)
      refine RC.done (rs := [.tmp 6]) (vs := [_]) rfl rfl ⟨rfl, trivial⟩ ?_
      -- end 1
      rw [hres]
      exact ⟨_, _, rfl, o48, S⟩
    ·
      have hd : d = true := (by simpa using h8)
      have hres : putR l key v = o := (by rw [putR, hp, hd]; rfl)
      refine RC.skip (RC.back ?_)
      refine RC.seq ?_
      refine RC.region rfl ?_
      refine RL.ev (.move rfl) rfl rfl ?_
      refine RL.ev (.assign rfl) rfl rfl ?_
      refine RL.nil (RC.back ?_)
      refine RC.done (rs := [.tmp 6]) (vs := [_]) rfl rfl ⟨rfl, trivial⟩ ?_
      -- end 2
      rw [hres]
      exact ⟨_, _, rfl, o7, S⟩
theorem filter_take {p : It → Bool} {l : List It} {i : Nat} {x : It} (h : l[i]? = some x) : (l.take (i + 1)).filter p = (l.take i).filter p ++ (if p x then [x] else []) := by
  rw [List.take_add_one, h]
  simp only [Option.toList, List.filter_append, List.filter_cons, List.filter_nil]
theorem c_refBelow (l : List It) (a : Option Addr) (c m : Nat) (hm : m = l.length) (key : Int) (w : World) (hl : Sl w a 2 (l.map It.cells)) (hb : l.length ≤ 1000000) :
    FC Try.prog 41 [.slice a m c, .int .i64 key] w (fun u w' => ∃ a' c', u = .slice a' ((l.filter fun x => decide (x.k < key)).map It.cells).length c' ∧ Ows w.heap.size w' 82 2 (.slice a' ((l.filter fun x => decide (x.k < key)).map It.cells).length c') ((l.filter fun x => decide (x.k < key)).map It.cells) ∧ Sub w w') := by
  subst hm
  refine FC.intro Try.func41 rfl Try.ntmps41 rfl ?_
  have S := Sub.refl w
  refine RC.seq ?_
  refine RC.region rfl ?_
  refine RL.ev (.assign rfl) rfl rfl ?_
  refine RL.nil (RC.back ?_)
  refine RC.seq ?_
  refine RC.region rfl ?_
  refine RL.buildSlice0 sl35 rfl rfl (fun b_8 w_8 e_8 z_8 hb_8 s_8 => ?_)
  have ge_8 := S.le e_8
  have S := S.trans s_8
  refine RL.ev (.assign rfl) rfl rfl ?_
  refine RL.nil (RC.back ?_)
  refine RC.seq ?_
  refine RC.seq ?_
  refine RC.region rfl ?_
  refine RL.ev (.move rfl) rfl rfl ?_
  refine RL.ev (.len sl35 rfl) rfl rfl ?_
  refine RL.ev (.move rfl) rfl rfl ?_
  refine RL.nil (RC.back ?_)
  refine RC.block ?_
  refine RC.loop (α := Nat × List It × Option Addr × Nat × Nat) (fun x => [(1, .int .i64 key), (5, .slice x.2.2.1 x.2.2.2.1 x.2.2.2.2), (9, .slice a l.length c), (10, .int .i64 (l.length : Int)), (11, .int .i64 (x.1 : Int))]) (fun x w1 => (x.1 ≤ l.length ∧ x.2.1 = (l.take x.1).filter (fun x => decide (x.k < key))) ∧ Ows w.heap.size w1 82 2 (.slice x.2.2.1 x.2.2.2.1 x.2.2.2.2) (x.2.1.map It.cells) ∧ Sub w w1) (fun x => l.length - x.1) (0, [], some ⟨b_8, 0, none⟩, 0, 0) (keep_of (by repeat (first | exact trivial | refine And.intro rfl ?_))) (⟨⟨Nat.zero_le _, rfl⟩, Ows.lit0 hb_8 (by omega), S⟩) (fun x w1 hJ => ?_)
  obtain ⟨i, o, ao, mo, co⟩ := x; obtain ⟨⟨hi, hp⟩, o7, S⟩ := hJ; simp only [] at hi hp o7; obtain rfl := o7.sl.2; have hol : o.length ≤ i := (by rw [hp]; exact Nat.le_trans (List.length_filter_le _ _) (by rw [List.length_take]; omega)); have szB := S.size
  refine RC.seq ?_
  refine RC.region rfl ?_
  refine RL.ev (.bin rfl rfl rfl) rfl rfl ?_
  refine RL.nil (RC.back ?_)
  refine RC.seq ?_
  refine RC.cond_dec rfl (fun h2 => ?_) (fun h2 => ?_)
  ·
    obtain ⟨x, hx⟩ := getSome (l := l) (i := i) (by omega)
    have hst := filter_take (p := fun x => decide (x.k < key)) hx
    rw [← hp] at hst
    refine RC.skip (RC.back ?_)
    refine RC.seq ?_
    refine RC.block ?_
    refine RC.seq ?_
    refine RC.region rfl ?_
    refine RL.ev (.indexS sl35 rfl rfl (by omega) (hl.is (i := 0) (by simp only [List.length_map, List.length_cons, List.length_nil]; omega))) rfl rfl ?_
    refine RL.ev (.loadR (x.cells) sh82 rfl ((hl.sub S).rowAt (enc := It.cells) (i := i) hx) rfl) rfl rfl ?_
    refine RL.alloc ze82 rfl rfl (fun b_7 w_7 e_7 z_7 hb_7 s_7 => ?_)
    have ge_7 := S.le e_7
    have d_o7_b_7 := o7.neNew e_7
    have S := S.trans s_7
    have o7 := o7.sub s_7
    have szB := Nat.le_trans szB s_7.size
    refine RL.store sh82 rfl rfl rfl hb_7 (by exact Nat.le_of_ble_eq_true rfl) (by rfl) rfl (fun w3 z3 hb_7 a3 => ?_)
    have S := S.upd a3 ge_7
    have o7 := o7.updD a3 d_o7_b_7
    have szB := Nat.le_trans szB a3.size
    have hb_7 : Has w3 b_7 (x.cells) _ := hb_7.now (by kernel_rfl)
    refine RL.nil (RC.back ?_)
    refine RC.seq ?_
    refine RC.region rfl ?_
    refine RL.ev (.field0 fo82_0 rfl) rfl rfl ?_
    refine RL.ev (.load1 sh2 rfl (hb_7.cell rfl)) rfl rfl ?_
    refine RL.ev (.move rfl) rfl rfl ?_
    refine RL.ev (.bin rfl rfl rfl) rfl rfl ?_
    refine RL.nil (RC.back ?_)
    refine RC.cond_dec rfl (fun h4 => ?_) (fun h4 => ?_)
    ·
      have hk := h4
      rw [if_pos (decide_eq_true hk)] at hst
      refine RC.region rfl ?_
      refine RL.ev (.move rfl) rfl rfl ?_
      refine RL.ev (.loadR (x.cells) sh82 rfl hb_7.row rfl) rfl rfl ?_
      refine RL.buildSlice1 sl35 _ ze82 rfl rfl rfl rfl rfl rfl rfl (fun b_21 w_21 e_21 z_21 hb_21 s_21 => ?_)
      have ge_21 := S.le e_21
      have n_7__21 := hb_7.ne e_21
      have d_o7_b_21 := o7.neNew e_21
      have S := S.trans s_21
      have o7 := o7.sub s_21
      have szB := Nat.le_trans szB s_21.size
      have hb_7 := hb_7.sub s_21
      have sz_22 := S.size
      have ltb_7_22 := hb_7.lt
      have ltb_21_22 := hb_21.lt
      refine RL.append2 (base := w.heap.size) (rows := o.map It.cells) (news := [_]) sl35 ze82 rfl rfl rfl rfl (.inl o7) (Has.slOne hb_21) rfl (by intro r hr; rw [List.mem_singleton] at hr; subst hr; rfl) rfl (by (try simp only [List.length_map, List.length_nil, List.length_append, List.length_cons]); omega) (by (try simp only [List.length_map, List.length_nil, List.length_append, List.length_cons]); omega) (by omega) rfl rfl (fun v_22 w_22 hc_22 ho_22 ag_22 ob_22 => ?_)
      have o22 := ho_22 (.inl (by simp))
      rw [show _ ++ [_] = ((o ++ [x]).map It.cells) from by rw [List.map_append]; rfl] at o22
      have d_o22_b_7 := obNe ob_22 d_o7_b_7 hb_7.lt
      have S := S.agrN ag_22 (fun k e => Nat.le_trans (by omega) e.2)
      have szB := Nat.le_trans szB ag_22.size
      have hb_7 := hb_7.step ag_22 (fun e => d_o7_b_7 _ e.1 rfl)
      obtain ⟨a_22, c_22, rfl, k_22⟩ := o22.form
      refine RL.ev (.assign rfl) rfl rfl ?_
      refine RL.nil (RC.back ?_)
      refine RC.region rfl ?_
      refine RL.ev (.as (.bin rfl rfl rfl) (wi64 (y := ((i + 1 : Nat) : Int)) (by omega) (by omega))) rfl rfl ?_
      refine RL.ev (.move rfl) rfl rfl ?_
      exact RL.nil (fun a ka => ⟨(i + 1, o ++ [x], a_22, _, c_22), ⟨⟨by omega, hst.symm⟩, o22, S⟩, by omega, ka.keep (keep_of (by repeat (first | exact trivial | refine And.intro rfl ?_)))⟩)
    ·
      have hk := h4
      rw [if_neg (fun e => hk (of_decide_eq_true e)), List.append_nil] at hst
      refine RC.skip (RC.back ?_)
      refine RC.region rfl ?_
      refine RL.ev (.as (.bin rfl rfl rfl) (wi64 (y := ((i + 1 : Nat) : Int)) (by omega) (by omega))) rfl rfl ?_
      refine RL.ev (.move rfl) rfl rfl ?_
      exact RL.nil (fun a ka => ⟨(i + 1, o, ao, _, co), ⟨⟨by omega, hst.symm⟩, o7, S⟩, by omega, ka.keep (keep_of (by repeat (first | exact trivial | refine And.intro rfl ?_)))⟩)
  ·
    obtain rfl : i = l.length := (by omega)
    rw [List.take_length] at hp
    refine RC.exit rfl (RC.back ?_)
    refine RC.seq ?_
    refine RC.region rfl ?_
    refine RL.ev (.move rfl) rfl rfl ?_
    refine RL.ev (.assign rfl) rfl rfl ?_
    refine RL.nil (RC.back ?_)
    refine RC.done (rs := [.tmp 4]) (vs := [_]) rfl rfl ⟨rfl, trivial⟩ ?_
    -- end 1
    rw [← hp]
    exact ⟨_, _, rfl, o7, S⟩
end Go.Proofs.Ytlhnnleaiinjaaa
set_option linter.unusedVariables false
set_option linter.unusedSimpArgs false
namespace Go.Proofs.Ytlhnnleaiinjaaa
open Go Go.XL
def fieldAt (P : Program) (t : TypeId) (i : Nat) : Field := match P.underlying t with
  | some (.struct fs) => fs[i]!
  | _ => default
theorem pair77 : PairT Try.prog 77 (fieldAt Try.prog 77 0) (fieldAt Try.prog 77 1) :=
  ⟨by kernel_rfl, by kernel_rfl, by kernel_rfl, by kernel_rfl, by kernel_rfl, by kernel_rfl, by kernel_rfl, by kernel_rfl, by kernel_rfl⟩
/-- the entries of the literal, with their operations' places -/
def opT : List LE := [⟨2, 1, 1, .int .i64 1⟩, ⟨4, 1, 2, .int .i64 2⟩, ⟨6, 1, 3, .int .i64 1⟩, ⟨8, 1, 4, .int .i64 1⟩, ⟨10, 1, 5, .int .i64 1⟩, ⟨12, 1, 6, .int .i64 0⟩, ⟨14, 2, 1, .int .i64 1⟩, ⟨16, 2, 2, .int .i64 2⟩, ⟨18, 2, 3, .int .i64 1⟩, ⟨20, 2, 6, .int .i64 0⟩, ⟨22, 3, 1, .int .i64 1⟩, ⟨24, 3, 2, .int .i64 1⟩, ⟨26, 3, 3, .int .i64 0⟩, ⟨28, 3, 4, .int .i64 1⟩, ⟨30, 3, 5, .int .i64 0⟩, ⟨32, 3, 6, .int .i64 0⟩, ⟨34, 4, 1, .int .i64 0⟩, ⟨36, 4, 2, .int .i64 2⟩, ⟨38, 4, 3, .int .i64 0⟩, ⟨40, 4, 6, .int .i64 0⟩]
def opN (box kind : Int) : Option Value := (opT.find? fun e => decide (e.a = box ∧ e.c = kind)).map (·.v)
theorem c_numbers (w : World) : FC Try.prog 38 [] w (fun v w' => Sub w w' ∧ ∃ b, v = .map (some b) ∧ HasP w' b opN) := by
  refine FC.intro Try.func38 rfl Try.ntmps38 rfl ?_
  have S := Sub.refl w
  refine RC.seq ?_
  refine RC.region rfl ?_
  refine RL.ev (.assign rfl) rfl rfl ?_
  refine RL.nil (RC.back ?_)
  refine RC.seq ?_
  refine RC.drawD (fun k => False) [] w.heap.size 43 rfl rfl mxo (fun w1 s2 => ?_)
  have hNN : ∀ k, ((False) ∨ w.heap.size ≤ k) → w.heap.size ≤ k := fun k e => e.elim (fun e => e.elim) (fun e => Nat.le_trans S.size e)
  have ent_S := S.size
  have hN0 : ∀ k, w.heap.size ≤ k → w.heap.size ≤ k := fun k e => Nat.le_trans S.size e
  have szD := Nat.le_refl w.heap.size
  have S := S.trans s2
  have szD := Nat.le_trans szD s2.size
  refine RD.take 1 rfl (by kernel_rfl) (by kernel_rfl) (by kernel_rfl) (fun w' s' => .buildS ze77 pl77 rfl rfl) rfl rfl ?_
  refine RD.take 3 rfl (by kernel_rfl) (by kernel_rfl) (by kernel_rfl) (fun w' s' => .buildS ze77 pl77 rfl rfl) rfl rfl ?_
  refine RD.take 5 rfl (by kernel_rfl) (by kernel_rfl) (by kernel_rfl) (fun w' s' => .buildS ze77 pl77 rfl rfl) rfl rfl ?_
  refine RD.take 7 rfl (by kernel_rfl) (by kernel_rfl) (by kernel_rfl) (fun w' s' => .buildS ze77 pl77 rfl rfl) rfl rfl ?_
  refine RD.take 9 rfl (by kernel_rfl) (by kernel_rfl) (by kernel_rfl) (fun w' s' => .buildS ze77 pl77 rfl rfl) rfl rfl ?_
  refine RD.take 11 rfl (by kernel_rfl) (by kernel_rfl) (by kernel_rfl) (fun w' s' => .buildS ze77 pl77 rfl rfl) rfl rfl ?_
  refine RD.take 13 rfl (by kernel_rfl) (by kernel_rfl) (by kernel_rfl) (fun w' s' => .buildS ze77 pl77 rfl rfl) rfl rfl ?_
  refine RD.take 15 rfl (by kernel_rfl) (by kernel_rfl) (by kernel_rfl) (fun w' s' => .buildS ze77 pl77 rfl rfl) rfl rfl ?_
  refine RD.take 17 rfl (by kernel_rfl) (by kernel_rfl) (by kernel_rfl) (fun w' s' => .buildS ze77 pl77 rfl rfl) rfl rfl ?_
  refine RD.take 19 rfl (by kernel_rfl) (by kernel_rfl) (by kernel_rfl) (fun w' s' => .buildS ze77 pl77 rfl rfl) rfl rfl ?_
  refine RD.take 21 rfl (by kernel_rfl) (by kernel_rfl) (by kernel_rfl) (fun w' s' => .buildS ze77 pl77 rfl rfl) rfl rfl ?_
  refine RD.take 23 rfl (by kernel_rfl) (by kernel_rfl) (by kernel_rfl) (fun w' s' => .buildS ze77 pl77 rfl rfl) rfl rfl ?_
  refine RD.take 25 rfl (by kernel_rfl) (by kernel_rfl) (by kernel_rfl) (fun w' s' => .buildS ze77 pl77 rfl rfl) rfl rfl ?_
  refine RD.take 27 rfl (by kernel_rfl) (by kernel_rfl) (by kernel_rfl) (fun w' s' => .buildS ze77 pl77 rfl rfl) rfl rfl ?_
  refine RD.take 29 rfl (by kernel_rfl) (by kernel_rfl) (by kernel_rfl) (fun w' s' => .buildS ze77 pl77 rfl rfl) rfl rfl ?_
  refine RD.take 31 rfl (by kernel_rfl) (by kernel_rfl) (by kernel_rfl) (fun w' s' => .buildS ze77 pl77 rfl rfl) rfl rfl ?_
  refine RD.take 33 rfl (by kernel_rfl) (by kernel_rfl) (by kernel_rfl) (fun w' s' => .buildS ze77 pl77 rfl rfl) rfl rfl ?_
  refine RD.take 35 rfl (by kernel_rfl) (by kernel_rfl) (by kernel_rfl) (fun w' s' => .buildS ze77 pl77 rfl rfl) rfl rfl ?_
  refine RD.take 37 rfl (by kernel_rfl) (by kernel_rfl) (by kernel_rfl) (fun w' s' => .buildS ze77 pl77 rfl rfl) rfl rfl ?_
  refine RD.take 39 rfl (by kernel_rfl) (by kernel_rfl) (by kernel_rfl) (fun w' s' => .buildS ze77 pl77 rfl rfl) rfl rfl ?_
  refine RD.all [0] (by kernel_rfl) rfl (RDs.cons rfl ?_ (RDs.nil))
  refine RL.makeMapP rfl rfl (fun b_1 w_1 e_1 z_1 hb_1 s_1 => ?_)
  have fr_b_1 : w.heap.size ≤ b_1 := by rw [e_1]; exact szD
  have ge_1 := S.le e_1
  have S := S.trans s_1
  have szD := Nat.le_trans szD s_1.size
  refine RD.back s_1.agr ?_
  refine RD.lits opT _ 2 rfl Try.underlying74 pair77 (by intro e he; simp only [opT, List.mem_cons, List.not_mem_nil, or_false] at he; rcases he with rfl | rfl | rfl | rfl | rfl | rfl | rfl | rfl | rfl | rfl | rfl | rfl | rfl | rfl | rfl | rfl | rfl | rfl | rfl | rfl <;> exact ⟨_, _, _, _, _, _, rfl, rfl, rfl, rfl, by kernel_rfl⟩) (by decide) (by decide) (by kernel_rfl) (by kernel_rfl) (by simp [opT]) hb_1 fr_b_1 (fun w3 hb_1 a3 => ?_)
  have S := S.upd a3 ge_1
  have szD := Nat.le_trans szD a3.size
  refine RD.take 41 rfl (by kernel_rfl) (by kernel_rfl) (by kernel_rfl) (fun w' s' => .move rfl) rfl rfl ?_
  refine RD.take 42 rfl (by kernel_rfl) (by kernel_rfl) (by kernel_rfl) (fun w' s' => .assign rfl) rfl rfl ?_
  refine RD.done (by kernel_rfl) (RC.back ?_)
  refine RC.done (rs := [.tmp 0]) (vs := [_]) rfl rfl ⟨rfl, trivial⟩ ?_
  -- end 1
  exact ⟨S, _, rfl, hb_1⟩
structure OpT where
  box : Int
  kind : Int
  a : Int
  b : Int
  deriving DecidableEq
def OpT.cells (o : OpT) : List Value := [.int .i64 o.box, .int .i64 o.kind, .int .i64 o.a, .int .i64 o.b]
def OpT.ok (o : OpT) : Prop := I64 o.box ∧ I64 o.kind ∧ I64 o.a ∧ I64 o.b
def hasAP (box kind : Int) : Prop := (kind = 1 ∧ ¬ box = 4) ∨ (¬ kind = 1 ∧ (kind = 3 ∨ kind = 5) ∧ ((kind = 3 ∧ box < 3) ∨ box = 1)) ∨ (¬ kind = 1 ∧ ¬ (kind = 3 ∨ kind = 5) ∧ (kind = 2 ∨ kind = 4))
def hasBP (box kind : Int) : Prop := kind = 2 ∧ ¬ box = 3
def kindP (box kind : Int) : Prop := 1 ≤ box ∧ box ≤ 4 ∧ 1 ≤ kind ∧ kind ≤ 6 ∧ ¬ ((box = 2 ∨ box = 4) ∧ (kind = 4 ∨ kind = 5))
def okP (o : OpT) : Prop := kindP o.box o.kind ∧ -1073741824 ≤ o.a ∧ o.a ≤ 1073741824 ∧ -1073741824 ≤ o.b ∧ o.b ≤ 1073741824 ∧ (hasAP o.box o.kind ∨ o.a = 0) ∧ (hasBP o.box o.kind ∨ o.b = 0)
def readsP (o : OpT) : Prop := okP o ∧ (o.kind = 1 ∨ o.kind = 6 ∨ (o.box = 1 ∧ (o.kind = 4 ∨ o.kind = 5)))
instance (b k : Int) : Decidable (hasAP b k) := by unfold hasAP; infer_instance
instance (b k : Int) : Decidable (hasBP b k) := by unfold hasBP; infer_instance
instance (b k : Int) : Decidable (kindP b k) := by unfold kindP; infer_instance
instance (o : OpT) : Decidable (okP o) := by unfold okP; infer_instance
instance (o : OpT) : Decidable (readsP o) := by unfold readsP; infer_instance
theorem c_hasA (box kind : Int) (w : World) : FC Try.prog 29 [.int .i64 box, .int .i64 kind] w (Val (.bool (decide (hasAP box kind))) w) := by
  refine FC.intro Try.func29 rfl Try.ntmps29 rfl ?_
  have S := Sub.refl w
  refine RC.seq ?_
  refine RC.region rfl ?_
  refine RL.ev (.assign rfl) rfl rfl ?_
  refine RL.nil (RC.back ?_)
  refine RC.seq ?_
  refine RC.seq ?_
  refine RC.region rfl ?_
  refine RL.ev (.move rfl) rfl rfl ?_
  refine RL.ev (.bin rfl rfl rfl) rfl rfl ?_
  refine RL.nil (RC.back ?_)
  refine RC.cond_dec rfl (fun h1 => ?_) (fun h1 => ?_)
  ·
    have h6 : kind = 1 := h1
    refine RC.seq ?_
    refine RC.region rfl ?_
    refine RL.ev (.move rfl) rfl rfl ?_
    refine RL.ev (.bin rfl rfl rfl) rfl rfl ?_
    refine RL.ev (.assign rfl) rfl rfl ?_
    refine RL.nil (RC.back ?_)
    refine RC.done (rs := [.tmp 4]) (vs := [_]) rfl rfl ⟨rfl, trivial⟩ ?_
    -- end 1
    exact ⟨congrArg Value.bool (by (first | exact (decide_eq_true (by (try simp only [hasAP] at *); omega)).symm | exact (decide_eq_false (by (try simp only [hasAP] at *); omega)).symm | exact decide_eq_decide.2 (by (try simp only [hasAP] at *); omega))), S⟩
  ·
    have h6 : ¬ kind = 1 := h1
    refine RC.skip (RC.back ?_)
    refine RC.seq ?_
    refine RC.seq ?_
    refine RC.region rfl ?_
    refine RL.ev (.move rfl) rfl rfl ?_
    refine RL.ev (.bin rfl rfl rfl) rfl rfl ?_
    refine RL.ev (.move rfl) rfl rfl ?_
    refine RL.split 11 rfl (fun h2 => ?_) (fun h2 => ?_)
    ·
      have h11 : kind = 3 := h2
      refine RL.off rfl rfl ?_
      refine RL.off rfl rfl ?_
      refine RL.ev (.pick_t rfl rfl) rfl rfl ?_
      refine RL.nil (RC.back ?_)
      refine RC.cond_t rfl ?_
      refine RC.seq ?_
      refine RC.region rfl ?_
      refine RL.ev (.move rfl) rfl rfl ?_
      refine RL.ev (.bin rfl rfl rfl) rfl rfl ?_
      refine RL.ev (.move rfl) rfl rfl ?_
      refine RL.split 17 rfl (fun h3 => ?_) (fun h3 => ?_)
      ·
        have h17 : kind = 3 := h3
        refine RL.ev (.move rfl) rfl rfl ?_
        refine RL.ev (.bin rfl rfl rfl) rfl rfl ?_
        refine RL.ev (.pick_t rfl rfl) rfl rfl ?_
        refine RL.ev (.move rfl) rfl rfl ?_
        refine RL.split 21 rfl (fun h4 => ?_) (fun h4 => ?_)
        ·
          have h21 := h4
          refine RL.off rfl rfl ?_
          refine RL.off rfl rfl ?_
          refine RL.ev (.pick_t rfl rfl) rfl rfl ?_
          refine RL.ev (.assign rfl) rfl rfl ?_
          refine RL.nil (RC.back ?_)
          refine RC.done (rs := [.tmp 4]) (vs := [_]) rfl rfl ⟨rfl, trivial⟩ ?_
          -- end 2
          exact ⟨congrArg Value.bool (by (first | exact (decide_eq_true (by (try simp only [hasAP] at *); omega)).symm | exact (decide_eq_false (by (try simp only [hasAP] at *); omega)).symm | exact decide_eq_decide.2 (by (try simp only [hasAP] at *); omega))), S⟩
        ·
          have h21 := h4
          refine RL.ev (.move rfl) rfl rfl ?_
          refine RL.ev (.bin rfl rfl rfl) rfl rfl ?_
          refine RL.ev (.pick_f rfl rfl) rfl rfl ?_
          refine RL.ev (.assign rfl) rfl rfl ?_
          refine RL.nil (RC.back ?_)
          refine RC.done (rs := [.tmp 4]) (vs := [_]) rfl rfl ⟨rfl, trivial⟩ ?_
          -- end 3
          exact ⟨congrArg Value.bool (by (first | exact (decide_eq_true (by (try simp only [hasAP] at *); omega)).symm | exact (decide_eq_false (by (try simp only [hasAP] at *); omega)).symm | exact decide_eq_decide.2 (by (try simp only [hasAP] at *); omega))), S⟩
      ·
        have h17 : ¬ kind = 3 := h3
        refine RL.off rfl rfl ?_
        refine RL.off rfl rfl ?_
        refine RL.ev (.pick_f rfl rfl) rfl rfl ?_
        refine RL.ev (.move rfl) rfl rfl ?_
        refine RL.ev (.move rfl) rfl rfl ?_
        refine RL.ev (.bin rfl rfl rfl) rfl rfl ?_
        refine RL.ev (.pick_f rfl rfl) rfl rfl ?_
        refine RL.ev (.assign rfl) rfl rfl ?_
        refine RL.nil (RC.back ?_)
        refine RC.done (rs := [.tmp 4]) (vs := [_]) rfl rfl ⟨rfl, trivial⟩ ?_
        -- end 4
        exact ⟨congrArg Value.bool (by (first | exact (decide_eq_true (by (try simp only [hasAP] at *); omega)).symm | exact (decide_eq_false (by (try simp only [hasAP] at *); omega)).symm | exact decide_eq_decide.2 (by (try simp only [hasAP] at *); omega))), S⟩
    ·
      have h11 : ¬ kind = 3 := h2
      refine RL.ev (.move rfl) rfl rfl ?_
      refine RL.ev (.bin rfl rfl rfl) rfl rfl ?_
      refine RL.ev (.pick_f rfl rfl) rfl rfl ?_
      refine RL.nil (RC.back ?_)
      refine RC.cond_dec rfl (fun h5 => ?_) (fun h5 => ?_)
      ·
        have h14 : kind = 5 := h5
        refine RC.seq ?_
        refine RC.region rfl ?_
        refine RL.ev (.move rfl) rfl rfl ?_
        refine RL.ev (.bin rfl rfl rfl) rfl rfl ?_
        refine RL.ev (.move rfl) rfl rfl ?_
        refine RL.split 17 rfl (fun h6 => ?_) (fun h6 => ?_)
        ·
          have h17 : kind = 3 := h6
          refine RL.ev (.move rfl) rfl rfl ?_
          refine RL.ev (.bin rfl rfl rfl) rfl rfl ?_
          refine RL.ev (.pick_t rfl rfl) rfl rfl ?_
          refine RL.ev (.move rfl) rfl rfl ?_
          refine RL.split 21 rfl (fun h7 => ?_) (fun h7 => ?_)
          ·
            have h21 := h7
            refine RL.off rfl rfl ?_
            refine RL.off rfl rfl ?_
            refine RL.ev (.pick_t rfl rfl) rfl rfl ?_
            refine RL.ev (.assign rfl) rfl rfl ?_
            refine RL.nil (RC.back ?_)
            refine RC.done (rs := [.tmp 4]) (vs := [_]) rfl rfl ⟨rfl, trivial⟩ ?_
            -- end 5
            exact ⟨congrArg Value.bool (by (first | exact (decide_eq_true (by (try simp only [hasAP] at *); omega)).symm | exact (decide_eq_false (by (try simp only [hasAP] at *); omega)).symm | exact decide_eq_decide.2 (by (try simp only [hasAP] at *); omega))), S⟩
          ·
            have h21 := h7
            refine RL.ev (.move rfl) rfl rfl ?_
            refine RL.ev (.bin rfl rfl rfl) rfl rfl ?_
            refine RL.ev (.pick_f rfl rfl) rfl rfl ?_
            refine RL.ev (.assign rfl) rfl rfl ?_
            refine RL.nil (RC.back ?_)
            refine RC.done (rs := [.tmp 4]) (vs := [_]) rfl rfl ⟨rfl, trivial⟩ ?_
            -- end 6
            exact ⟨congrArg Value.bool (by (first | exact (decide_eq_true (by (try simp only [hasAP] at *); omega)).symm | exact (decide_eq_false (by (try simp only [hasAP] at *); omega)).symm | exact decide_eq_decide.2 (by (try simp only [hasAP] at *); omega))), S⟩
        ·
          have h17 : ¬ kind = 3 := h6
          refine RL.off rfl rfl ?_
          refine RL.off rfl rfl ?_
          refine RL.ev (.pick_f rfl rfl) rfl rfl ?_
          refine RL.ev (.move rfl) rfl rfl ?_
          refine RL.ev (.move rfl) rfl rfl ?_
          refine RL.ev (.bin rfl rfl rfl) rfl rfl ?_
          refine RL.ev (.pick_f rfl rfl) rfl rfl ?_
          refine RL.ev (.assign rfl) rfl rfl ?_
          refine RL.nil (RC.back ?_)
          refine RC.done (rs := [.tmp 4]) (vs := [_]) rfl rfl ⟨rfl, trivial⟩ ?_
          -- end 7
          exact ⟨congrArg Value.bool (by (first | exact (decide_eq_true (by (try simp only [hasAP] at *); omega)).symm | exact (decide_eq_false (by (try simp only [hasAP] at *); omega)).symm | exact decide_eq_decide.2 (by (try simp only [hasAP] at *); omega))), S⟩
      ·
        have h14 : ¬ kind = 5 := h5
        refine RC.skip (RC.back ?_)
        refine RC.seq ?_
        refine RC.region rfl ?_
        refine RL.ev (.move rfl) rfl rfl ?_
        refine RL.ev (.bin rfl rfl rfl) rfl rfl ?_
        refine RL.ev (.move rfl) rfl rfl ?_
        refine RL.split 27 rfl (fun h8 => ?_) (fun h8 => ?_)
        ·
          have h27 : kind = 2 := h8
          refine RL.off rfl rfl ?_
          refine RL.off rfl rfl ?_
          refine RL.ev (.pick_t rfl rfl) rfl rfl ?_
          refine RL.ev (.assign rfl) rfl rfl ?_
          refine RL.nil (RC.back ?_)
          refine RC.done (rs := [.tmp 4]) (vs := [_]) rfl rfl ⟨rfl, trivial⟩ ?_
          -- end 8
          exact ⟨congrArg Value.bool (by (first | exact (decide_eq_true (by (try simp only [hasAP] at *); omega)).symm | exact (decide_eq_false (by (try simp only [hasAP] at *); omega)).symm | exact decide_eq_decide.2 (by (try simp only [hasAP] at *); omega))), S⟩
        ·
          have h27 : ¬ kind = 2 := h8
          refine RL.ev (.move rfl) rfl rfl ?_
          refine RL.ev (.bin rfl rfl rfl) rfl rfl ?_
          refine RL.ev (.pick_f rfl rfl) rfl rfl ?_
          refine RL.ev (.assign rfl) rfl rfl ?_
          refine RL.nil (RC.back ?_)
          refine RC.done (rs := [.tmp 4]) (vs := [_]) rfl rfl ⟨rfl, trivial⟩ ?_
          -- end 9
          exact ⟨congrArg Value.bool (by (first | exact (decide_eq_true (by (try simp only [hasAP] at *); omega)).symm | exact (decide_eq_false (by (try simp only [hasAP] at *); omega)).symm | exact decide_eq_decide.2 (by (try simp only [hasAP] at *); omega))), S⟩
theorem c_hasB (box kind : Int) (w : World) : FC Try.prog 30 [.int .i64 box, .int .i64 kind] w (Val (.bool (decide (hasBP box kind))) w) := by
  refine FC.intro Try.func30 rfl Try.ntmps30 rfl ?_
  have S := Sub.refl w
  refine RC.seq ?_
  refine RC.region rfl ?_
  refine RL.ev (.assign rfl) rfl rfl ?_
  refine RL.nil (RC.back ?_)
  refine RC.seq ?_
  refine RC.region rfl ?_
  refine RL.ev (.move rfl) rfl rfl ?_
  refine RL.ev (.bin rfl rfl rfl) rfl rfl ?_
  refine RL.ev (.move rfl) rfl rfl ?_
  refine RL.split 7 rfl (fun h1 => ?_) (fun h1 => ?_)
  ·
    have h7 : kind = 2 := h1
    refine RL.ev (.move rfl) rfl rfl ?_
    refine RL.ev (.bin rfl rfl rfl) rfl rfl ?_
    refine RL.ev (.pick_t rfl rfl) rfl rfl ?_
    refine RL.ev (.assign rfl) rfl rfl ?_
    refine RL.nil (RC.back ?_)
    refine RC.done (rs := [.tmp 4]) (vs := [_]) rfl rfl ⟨rfl, trivial⟩ ?_
    -- end 1
    exact ⟨congrArg Value.bool (by (first | exact (decide_eq_true (by (try simp only [hasBP] at *); omega)).symm | exact (decide_eq_false (by (try simp only [hasBP] at *); omega)).symm | exact decide_eq_decide.2 (by (try simp only [hasBP] at *); omega))), S⟩
  ·
    have h7 : ¬ kind = 2 := h1
    refine RL.off rfl rfl ?_
    refine RL.off rfl rfl ?_
    refine RL.ev (.pick_f rfl rfl) rfl rfl ?_
    refine RL.ev (.assign rfl) rfl rfl ?_
    refine RL.nil (RC.back ?_)
    refine RC.done (rs := [.tmp 4]) (vs := [_]) rfl rfl ⟨rfl, trivial⟩ ?_
    -- end 2
    exact ⟨congrArg Value.bool (by (first | exact (decide_eq_true (by (try simp only [hasBP] at *); omega)).symm | exact (decide_eq_false (by (try simp only [hasBP] at *); omega)).symm | exact decide_eq_decide.2 (by (try simp only [hasBP] at *); omega))), S⟩
theorem c_within (a : Int) (w : World) : FC Try.prog 39 [.int .i64 a] w (Val (.bool (decide (-1073741824 ≤ a ∧ a ≤ 1073741824))) w) := by
  refine FC.intro Try.func39 rfl Try.ntmps39 rfl ?_
  have S := Sub.refl w
  refine RC.seq ?_
  refine RC.region rfl ?_
  refine RL.ev (.assign rfl) rfl rfl ?_
  refine RL.nil (RC.back ?_)
  refine RC.seq ?_
  refine RC.region rfl ?_
  refine RL.ev (.move rfl) rfl rfl ?_
  refine RL.ev (.bin rfl rfl rfl) rfl rfl ?_
  refine RL.ev (.move rfl) rfl rfl ?_
  refine RL.split 5 rfl (fun h1 => ?_) (fun h1 => ?_)
  ·
    have h5 := h1
    refine RL.ev (.move rfl) rfl rfl ?_
    refine RL.ev (.bin rfl rfl rfl) rfl rfl ?_
    refine RL.ev (.pick_t rfl rfl) rfl rfl ?_
    refine RL.ev (.assign rfl) rfl rfl ?_
    refine RL.nil (RC.back ?_)
    refine RC.done (rs := [.tmp 2]) (vs := [_]) rfl rfl ⟨rfl, trivial⟩ ?_
    -- end 1
    exact ⟨congrArg Value.bool (by (first | exact (decide_eq_true (by (try simp only [hasBP] at *); omega)).symm | exact (decide_eq_false (by (try simp only [hasBP] at *); omega)).symm | exact decide_eq_decide.2 (by (try simp only [hasBP] at *); omega))), S⟩
  ·
    have h5 := h1
    refine RL.off rfl rfl ?_
    refine RL.off rfl rfl ?_
    refine RL.ev (.pick_f rfl rfl) rfl rfl ?_
    refine RL.ev (.assign rfl) rfl rfl ?_
    refine RL.nil (RC.back ?_)
    refine RC.done (rs := [.tmp 2]) (vs := [_]) rfl rfl ⟨rfl, trivial⟩ ?_
    -- end 2
    exact ⟨congrArg Value.bool (by (first | exact (decide_eq_true (by (try simp only [hasBP] at *); omega)).symm | exact (decide_eq_false (by (try simp only [hasBP] at *); omega)).symm | exact decide_eq_decide.2 (by (try simp only [hasBP] at *); omega))), S⟩
theorem c_ref13Right (o : OpT) (w : World) : FC Try.prog 15 [.agg o.cells.toArray] w (Val (.bool (decide (okP o))) w) := by
  refine FC.intro Try.func15 rfl Try.ntmps15 rfl ?_
  have S := Sub.refl w
  refine RC.seq ?_
  refine RC.region rfl ?_
  refine RL.box rfl rfl rfl (fun b_1 w_1 e_1 z_1 hb_1 s_1 => ?_)
  have ge_1 := S.le e_1
  have S := S.trans s_1
  have hb_1 : Has w_1 b_1 ([.int .i64 o.box, .int .i64 o.kind, .int .i64 o.a, .int .i64 o.b]) _ := hb_1
  refine RL.ev (.assign rfl) rfl rfl ?_
  refine RL.nil (RC.back ?_)
  refine RC.seq ?_
  refine RC.seq ?_
  refine RC.region rfl ?_
  refine RL.ev (.field0 fo40_0 rfl) rfl rfl ?_
  refine RL.ev (.load1 sh3 rfl (hb_1.cell rfl)) rfl rfl ?_
  refine RL.ev (.bin rfl rfl rfl) rfl rfl ?_
  refine RL.ev (.move rfl) rfl rfl ?_
  refine RL.split 6 rfl (fun h1 => ?_) (fun h1 => ?_)
  ·
    refine RL.off rfl rfl ?_
    refine RL.off rfl rfl ?_
    refine RL.off rfl rfl ?_
    refine RL.ev (.pick_t rfl rfl) rfl rfl ?_
    refine RL.ev (.move rfl) rfl rfl ?_
    refine RL.off rfl rfl ?_
    refine RL.off rfl rfl ?_
    refine RL.off rfl rfl ?_
    refine RL.ev (.pick_t rfl rfl) rfl rfl ?_
    refine RL.ev (.move rfl) rfl rfl ?_
    refine RL.off rfl rfl ?_
    refine RL.off rfl rfl ?_
    refine RL.off rfl rfl ?_
    refine RL.ev (.pick_t rfl rfl) rfl rfl ?_
    refine RL.ev (.move rfl) rfl rfl ?_
    refine RL.off rfl rfl ?_
    refine RL.off rfl rfl ?_
    refine RL.off rfl rfl ?_
    refine RL.off rfl rfl ?_
    refine RL.off rfl rfl ?_
    refine RL.off rfl rfl ?_
    refine RL.off rfl rfl ?_
    refine RL.off rfl rfl ?_
    refine RL.off rfl rfl ?_
    refine RL.off rfl rfl ?_
    refine RL.off rfl rfl ?_
    refine RL.off rfl rfl ?_
    refine RL.off rfl rfl ?_
    refine RL.off rfl rfl ?_
    refine RL.off rfl rfl ?_
    refine RL.off rfl rfl ?_
    refine RL.off rfl rfl ?_
    refine RL.off rfl rfl ?_
    refine RL.ev (.pick_t rfl rfl) rfl rfl ?_
    refine RL.nil (RC.back ?_)
    refine RC.cond_t rfl ?_
    refine RC.seq ?_
    refine RC.region rfl ?_
    refine RL.ev (.assign rfl) rfl rfl ?_
    refine RL.nil (RC.back ?_)
    refine RC.done (rs := [.tmp 2]) (vs := [_]) rfl rfl ⟨rfl, trivial⟩ ?_
    -- end 1
    exact ⟨congrArg Value.bool (by (first | exact (decide_eq_true (by (try simp only [okP, kindP, hasAP, hasBP] at *); omega)).symm | exact (decide_eq_false (by (try simp only [okP, kindP, hasAP, hasBP] at *); omega)).symm | exact decide_eq_decide.2 (by (try simp only [okP, kindP, hasAP, hasBP] at *); omega))), S⟩
  ·
    refine RL.ev (.field0 fo40_0 rfl) rfl rfl ?_
    refine RL.ev (.load1 sh3 rfl (hb_1.cell rfl)) rfl rfl ?_
    refine RL.ev (.bin rfl rfl rfl) rfl rfl ?_
    refine RL.ev (.pick_f rfl rfl) rfl rfl ?_
    refine RL.ev (.move rfl) rfl rfl ?_
    refine RL.split 11 rfl (fun h2 => ?_) (fun h2 => ?_)
    ·
      refine RL.off rfl rfl ?_
      refine RL.off rfl rfl ?_
      refine RL.off rfl rfl ?_
      refine RL.ev (.pick_t rfl rfl) rfl rfl ?_
      refine RL.ev (.move rfl) rfl rfl ?_
      refine RL.off rfl rfl ?_
      refine RL.off rfl rfl ?_
      refine RL.off rfl rfl ?_
      refine RL.ev (.pick_t rfl rfl) rfl rfl ?_
      refine RL.ev (.move rfl) rfl rfl ?_
      refine RL.off rfl rfl ?_
      refine RL.off rfl rfl ?_
      refine RL.off rfl rfl ?_
      refine RL.off rfl rfl ?_
      refine RL.off rfl rfl ?_
      refine RL.off rfl rfl ?_
      refine RL.off rfl rfl ?_
      refine RL.off rfl rfl ?_
      refine RL.off rfl rfl ?_
      refine RL.off rfl rfl ?_
      refine RL.off rfl rfl ?_
      refine RL.off rfl rfl ?_
      refine RL.off rfl rfl ?_
      refine RL.off rfl rfl ?_
      refine RL.off rfl rfl ?_
      refine RL.off rfl rfl ?_
      refine RL.off rfl rfl ?_
      refine RL.off rfl rfl ?_
      refine RL.ev (.pick_t rfl rfl) rfl rfl ?_
      refine RL.nil (RC.back ?_)
      refine RC.cond_t rfl ?_
      refine RC.seq ?_
      refine RC.region rfl ?_
      refine RL.ev (.assign rfl) rfl rfl ?_
      refine RL.nil (RC.back ?_)
      refine RC.done (rs := [.tmp 2]) (vs := [_]) rfl rfl ⟨rfl, trivial⟩ ?_
      -- end 2
      exact ⟨congrArg Value.bool (by (first | exact (decide_eq_true (by (try simp only [okP, kindP, hasAP, hasBP] at *); omega)).symm | exact (decide_eq_false (by (try simp only [okP, kindP, hasAP, hasBP] at *); omega)).symm | exact decide_eq_decide.2 (by (try simp only [okP, kindP, hasAP, hasBP] at *); omega))), S⟩
    ·
      refine RL.ev (.field0 fo40_1 rfl) rfl rfl ?_
      refine RL.ev (.load1 sh3 rfl (hb_1.cell rfl)) rfl rfl ?_
      refine RL.ev (.bin rfl rfl rfl) rfl rfl ?_
      refine RL.ev (.pick_f rfl rfl) rfl rfl ?_
      refine RL.ev (.move rfl) rfl rfl ?_
      refine RL.split 16 rfl (fun h3 => ?_) (fun h3 => ?_)
      ·
        refine RL.off rfl rfl ?_
        refine RL.off rfl rfl ?_
        refine RL.off rfl rfl ?_
        refine RL.ev (.pick_t rfl rfl) rfl rfl ?_
        refine RL.ev (.move rfl) rfl rfl ?_
        refine RL.off rfl rfl ?_
        refine RL.off rfl rfl ?_
        refine RL.off rfl rfl ?_
        refine RL.off rfl rfl ?_
        refine RL.off rfl rfl ?_
        refine RL.off rfl rfl ?_
        refine RL.off rfl rfl ?_
        refine RL.off rfl rfl ?_
        refine RL.off rfl rfl ?_
        refine RL.off rfl rfl ?_
        refine RL.off rfl rfl ?_
        refine RL.off rfl rfl ?_
        refine RL.off rfl rfl ?_
        refine RL.off rfl rfl ?_
        refine RL.off rfl rfl ?_
        refine RL.off rfl rfl ?_
        refine RL.off rfl rfl ?_
        refine RL.off rfl rfl ?_
        refine RL.ev (.pick_t rfl rfl) rfl rfl ?_
        refine RL.nil (RC.back ?_)
        refine RC.cond_t rfl ?_
        refine RC.seq ?_
        refine RC.region rfl ?_
        refine RL.ev (.assign rfl) rfl rfl ?_
        refine RL.nil (RC.back ?_)
        refine RC.done (rs := [.tmp 2]) (vs := [_]) rfl rfl ⟨rfl, trivial⟩ ?_
        -- end 3
        exact ⟨congrArg Value.bool (by (first | exact (decide_eq_true (by (try simp only [okP, kindP, hasAP, hasBP] at *); omega)).symm | exact (decide_eq_false (by (try simp only [okP, kindP, hasAP, hasBP] at *); omega)).symm | exact decide_eq_decide.2 (by (try simp only [okP, kindP, hasAP, hasBP] at *); omega))), S⟩
      ·
        refine RL.ev (.field0 fo40_1 rfl) rfl rfl ?_
        refine RL.ev (.load1 sh3 rfl (hb_1.cell rfl)) rfl rfl ?_
        refine RL.ev (.bin rfl rfl rfl) rfl rfl ?_
        refine RL.ev (.pick_f rfl rfl) rfl rfl ?_
        refine RL.ev (.move rfl) rfl rfl ?_
        refine RL.split 21 rfl (fun h4 => ?_) (fun h4 => ?_)
        ·
          refine RL.off rfl rfl ?_
          refine RL.off rfl rfl ?_
          refine RL.off rfl rfl ?_
          refine RL.off rfl rfl ?_
          refine RL.off rfl rfl ?_
          refine RL.off rfl rfl ?_
          refine RL.off rfl rfl ?_
          refine RL.off rfl rfl ?_
          refine RL.off rfl rfl ?_
          refine RL.off rfl rfl ?_
          refine RL.off rfl rfl ?_
          refine RL.off rfl rfl ?_
          refine RL.off rfl rfl ?_
          refine RL.off rfl rfl ?_
          refine RL.off rfl rfl ?_
          refine RL.off rfl rfl ?_
          refine RL.off rfl rfl ?_
          refine RL.off rfl rfl ?_
          refine RL.ev (.pick_t rfl rfl) rfl rfl ?_
          refine RL.nil (RC.back ?_)
          refine RC.cond_t rfl ?_
          refine RC.seq ?_
          refine RC.region rfl ?_
          refine RL.ev (.assign rfl) rfl rfl ?_
          refine RL.nil (RC.back ?_)
          refine RC.done (rs := [.tmp 2]) (vs := [_]) rfl rfl ⟨rfl, trivial⟩ ?_
          -- end 4
          exact ⟨congrArg Value.bool (by (first | exact (decide_eq_true (by (try simp only [okP, kindP, hasAP, hasBP] at *); omega)).symm | exact (decide_eq_false (by (try simp only [okP, kindP, hasAP, hasBP] at *); omega)).symm | exact decide_eq_decide.2 (by (try simp only [okP, kindP, hasAP, hasBP] at *); omega))), S⟩
        ·
          refine RL.ev (.field0 fo40_0 rfl) rfl rfl ?_
          refine RL.ev (.load1 sh3 rfl (hb_1.cell rfl)) rfl rfl ?_
          refine RL.ev (.bin rfl rfl rfl) rfl rfl ?_
          refine RL.ev (.move rfl) rfl rfl ?_
          refine RL.split 25 rfl (fun h5 => ?_) (fun h5 => ?_)
          ·
            refine RL.off rfl rfl ?_
            refine RL.off rfl rfl ?_
            refine RL.off rfl rfl ?_
            refine RL.ev (.pick_t rfl rfl) rfl rfl ?_
            refine RL.ev (.move rfl) rfl rfl ?_
            refine RL.ev (.field0 fo40_1 rfl) rfl rfl ?_
            refine RL.ev (.load1 sh3 rfl (hb_1.cell rfl)) rfl rfl ?_
            refine RL.ev (.bin rfl rfl rfl) rfl rfl ?_
            refine RL.ev (.move rfl) rfl rfl ?_
            refine RL.split 34 rfl (fun h6 => ?_) (fun h6 => ?_)
            ·
              refine RL.off rfl rfl ?_
              refine RL.off rfl rfl ?_
              refine RL.off rfl rfl ?_
              refine RL.ev (.pick_t rfl rfl) rfl rfl ?_
              refine RL.ev (.pick_t rfl rfl) rfl rfl ?_
              refine RL.ev (.pick_f rfl rfl) rfl rfl ?_
              refine RL.nil (RC.back ?_)
              refine RC.cond_t rfl ?_
              refine RC.seq ?_
              refine RC.region rfl ?_
              refine RL.ev (.assign rfl) rfl rfl ?_
              refine RL.nil (RC.back ?_)
              refine RC.done (rs := [.tmp 2]) (vs := [_]) rfl rfl ⟨rfl, trivial⟩ ?_
              -- end 5
              exact ⟨congrArg Value.bool (by (first | exact (decide_eq_true (by (try simp only [okP, kindP, hasAP, hasBP] at *); omega)).symm | exact (decide_eq_false (by (try simp only [okP, kindP, hasAP, hasBP] at *); omega)).symm | exact decide_eq_decide.2 (by (try simp only [okP, kindP, hasAP, hasBP] at *); omega))), S⟩
            ·
              refine RL.ev (.field0 fo40_1 rfl) rfl rfl ?_
              refine RL.ev (.load1 sh3 rfl (hb_1.cell rfl)) rfl rfl ?_
              refine RL.ev (.bin rfl rfl rfl) rfl rfl ?_
              refine RL.ev (.pick_f rfl rfl) rfl rfl ?_
              refine RL.ev (.pick_t rfl rfl) rfl rfl ?_
              refine RL.ev (.pick_f rfl rfl) rfl rfl ?_
              refine RL.nil (RC.back ?_)
              refine RC.cond_dec rfl (fun h7 => ?_) (fun h7 => ?_)
              ·
                refine RC.seq ?_
                refine RC.region rfl ?_
                refine RL.ev (.assign rfl) rfl rfl ?_
                refine RL.nil (RC.back ?_)
                refine RC.done (rs := [.tmp 2]) (vs := [_]) rfl rfl ⟨rfl, trivial⟩ ?_
                -- end 6
                exact ⟨congrArg Value.bool (by (first | exact (decide_eq_true (by (try simp only [okP, kindP, hasAP, hasBP] at *); omega)).symm | exact (decide_eq_false (by (try simp only [okP, kindP, hasAP, hasBP] at *); omega)).symm | exact decide_eq_decide.2 (by (try simp only [okP, kindP, hasAP, hasBP] at *); omega))), S⟩
              ·
                refine RC.skip (RC.back ?_)
                refine RC.seq ?_
                refine RC.seq ?_
                refine RC.region rfl ?_
                refine RL.ev (.field0 fo40_2 rfl) rfl rfl ?_
                refine RL.ev (.load1 sh2 rfl (hb_1.cell rfl)) rfl rfl ?_
                refine RL.ev (.bin rfl rfl rfl) rfl rfl ?_
                refine RL.ev (.move rfl) rfl rfl ?_
                refine RL.split 44 rfl (fun h8 => ?_) (fun h8 => ?_)
                ·
                  refine RL.off rfl rfl ?_
                  refine RL.off rfl rfl ?_
                  refine RL.off rfl rfl ?_
                  refine RL.ev (.pick_t rfl rfl) rfl rfl ?_
                  refine RL.ev (.move rfl) rfl rfl ?_
                  refine RL.off rfl rfl ?_
                  refine RL.off rfl rfl ?_
                  refine RL.off rfl rfl ?_
                  refine RL.ev (.pick_t rfl rfl) rfl rfl ?_
                  refine RL.ev (.move rfl) rfl rfl ?_
                  refine RL.off rfl rfl ?_
                  refine RL.off rfl rfl ?_
                  refine RL.off rfl rfl ?_
                  refine RL.ev (.pick_t rfl rfl) rfl rfl ?_
                  refine RL.nil (RC.back ?_)
                  refine RC.cond_t rfl ?_
                  refine RC.seq ?_
                  refine RC.region rfl ?_
                  refine RL.ev (.assign rfl) rfl rfl ?_
                  refine RL.nil (RC.back ?_)
                  refine RC.done (rs := [.tmp 2]) (vs := [_]) rfl rfl ⟨rfl, trivial⟩ ?_
                  -- end 7
                  exact ⟨congrArg Value.bool (by (first | exact (decide_eq_true (by (try simp only [okP, kindP, hasAP, hasBP] at *); omega)).symm | exact (decide_eq_false (by (try simp only [okP, kindP, hasAP, hasBP] at *); omega)).symm | exact decide_eq_decide.2 (by (try simp only [okP, kindP, hasAP, hasBP] at *); omega))), S⟩
                ·
                  refine RL.ev (.field0 fo40_2 rfl) rfl rfl ?_
                  refine RL.ev (.load1 sh2 rfl (hb_1.cell rfl)) rfl rfl ?_
                  refine RL.ev (.bin rfl rfl rfl) rfl rfl ?_
                  refine RL.ev (.pick_f rfl rfl) rfl rfl ?_
                  refine RL.ev (.move rfl) rfl rfl ?_
                  refine RL.split 49 rfl (fun h9 => ?_) (fun h9 => ?_)
                  ·
                    refine RL.off rfl rfl ?_
                    refine RL.off rfl rfl ?_
                    refine RL.off rfl rfl ?_
                    refine RL.ev (.pick_t rfl rfl) rfl rfl ?_
                    refine RL.ev (.move rfl) rfl rfl ?_
                    refine RL.off rfl rfl ?_
                    refine RL.off rfl rfl ?_
                    refine RL.off rfl rfl ?_
                    refine RL.ev (.pick_t rfl rfl) rfl rfl ?_
                    refine RL.nil (RC.back ?_)
                    refine RC.cond_t rfl ?_
                    refine RC.seq ?_
                    refine RC.region rfl ?_
                    refine RL.ev (.assign rfl) rfl rfl ?_
                    refine RL.nil (RC.back ?_)
                    refine RC.done (rs := [.tmp 2]) (vs := [_]) rfl rfl ⟨rfl, trivial⟩ ?_
                    -- end 8
                    exact ⟨congrArg Value.bool (by (first | exact (decide_eq_true (by (try simp only [okP, kindP, hasAP, hasBP] at *); omega)).symm | exact (decide_eq_false (by (try simp only [okP, kindP, hasAP, hasBP] at *); omega)).symm | exact decide_eq_decide.2 (by (try simp only [okP, kindP, hasAP, hasBP] at *); omega))), S⟩
                  ·
                    refine RL.ev (.field0 fo40_3 rfl) rfl rfl ?_
                    refine RL.ev (.load1 sh2 rfl (hb_1.cell rfl)) rfl rfl ?_
                    refine RL.ev (.bin rfl rfl rfl) rfl rfl ?_
                    refine RL.ev (.pick_f rfl rfl) rfl rfl ?_
                    refine RL.ev (.move rfl) rfl rfl ?_
                    refine RL.split 54 rfl (fun h10 => ?_) (fun h10 => ?_)
                    ·
                      refine RL.off rfl rfl ?_
                      refine RL.off rfl rfl ?_
                      refine RL.off rfl rfl ?_
                      refine RL.ev (.pick_t rfl rfl) rfl rfl ?_
                      refine RL.nil (RC.back ?_)
                      refine RC.cond_t rfl ?_
                      refine RC.seq ?_
                      refine RC.region rfl ?_
                      refine RL.ev (.assign rfl) rfl rfl ?_
                      refine RL.nil (RC.back ?_)
                      refine RC.done (rs := [.tmp 2]) (vs := [_]) rfl rfl ⟨rfl, trivial⟩ ?_
                      -- end 9
                      exact ⟨congrArg Value.bool (by (first | exact (decide_eq_true (by (try simp only [okP, kindP, hasAP, hasBP] at *); omega)).symm | exact (decide_eq_false (by (try simp only [okP, kindP, hasAP, hasBP] at *); omega)).symm | exact decide_eq_decide.2 (by (try simp only [okP, kindP, hasAP, hasBP] at *); omega))), S⟩
                    ·
                      refine RL.ev (.field0 fo40_3 rfl) rfl rfl ?_
                      refine RL.ev (.load1 sh2 rfl (hb_1.cell rfl)) rfl rfl ?_
                      refine RL.ev (.bin rfl rfl rfl) rfl rfl ?_
                      refine RL.ev (.pick_f rfl rfl) rfl rfl ?_
                      refine RL.nil (RC.back ?_)
                      refine RC.cond_dec rfl (fun h11 => ?_) (fun h11 => ?_)
                      ·
                        refine RC.seq ?_
                        refine RC.region rfl ?_
                        refine RL.ev (.assign rfl) rfl rfl ?_
                        refine RL.nil (RC.back ?_)
                        refine RC.done (rs := [.tmp 2]) (vs := [_]) rfl rfl ⟨rfl, trivial⟩ ?_
                        -- end 10
                        exact ⟨congrArg Value.bool (by (first | exact (decide_eq_true (by (try simp only [okP, kindP, hasAP, hasBP] at *); omega)).symm | exact (decide_eq_false (by (try simp only [okP, kindP, hasAP, hasBP] at *); omega)).symm | exact decide_eq_decide.2 (by (try simp only [okP, kindP, hasAP, hasBP] at *); omega))), S⟩
                      ·
                        refine RC.skip (RC.back ?_)
                        refine RC.seq ?_
                        refine RC.region rfl ?_
                        refine RL.ev (.field0 fo40_0 rfl) rfl rfl ?_
                        refine RL.ev (.load1 sh3 rfl (hb_1.cell rfl)) rfl rfl ?_
                        refine RL.ev (.field0 fo40_1 rfl) rfl rfl ?_
                        refine RL.ev (.load1 sh3 rfl (hb_1.cell rfl)) rfl rfl ?_
                        refine RL.call rfl ok29 (c_hasA o.box o.kind w_1) rfl rfl ?_
                        rintro _ w12 ⟨rfl, s13⟩
                        have S := S.trans s13
                        have hb_1 := hb_1.sub s13
                        refine RL.ev (.move rfl) rfl rfl ?_
                        refine RL.split 64 rfl (fun h14 => ?_) (fun h14 => ?_)
                        ·
                          refine RL.off rfl rfl ?_
                          refine RL.off rfl rfl ?_
                          refine RL.off rfl rfl ?_
                          refine RL.ev (.pick_t rfl rfl) rfl rfl ?_
                          refine RL.ev (.move rfl) rfl rfl ?_
                          refine RL.ev (.field0 fo40_0 rfl) rfl rfl ?_
                          refine RL.ev (.load1 sh3 rfl (hb_1.cell rfl)) rfl rfl ?_
                          refine RL.ev (.field0 fo40_1 rfl) rfl rfl ?_
                          refine RL.ev (.load1 sh3 rfl (hb_1.cell rfl)) rfl rfl ?_
                          refine RL.call rfl ok30 (c_hasB o.box o.kind w12) rfl rfl ?_
                          rintro _ w15 ⟨rfl, s16⟩
                          have S := S.trans s16
                          have hb_1 := hb_1.sub s16
                          refine RL.ev (.move rfl) rfl rfl ?_
                          refine RL.split 75 rfl (fun h17 => ?_) (fun h17 => ?_)
                          ·
                            refine RL.off rfl rfl ?_
                            refine RL.off rfl rfl ?_
                            refine RL.off rfl rfl ?_
                            refine RL.ev (.pick_t rfl rfl) rfl rfl ?_
                            refine RL.ev (.pick_t rfl rfl) rfl rfl ?_
                            refine RL.ev (.assign rfl) rfl rfl ?_
                            refine RL.nil (RC.back ?_)
                            refine RC.done (rs := [.tmp 2]) (vs := [_]) rfl rfl ⟨rfl, trivial⟩ ?_
                            -- end 11
                            exact ⟨congrArg Value.bool (by (first | exact (decide_eq_true (by (try simp only [okP, kindP, hasAP, hasBP] at *); omega)).symm | exact (decide_eq_false (by (try simp only [okP, kindP, hasAP, hasBP] at *); omega)).symm | exact decide_eq_decide.2 (by (try simp only [okP, kindP, hasAP, hasBP] at *); omega))), S⟩
                          ·
                            refine RL.ev (.field0 fo40_3 rfl) rfl rfl ?_
                            refine RL.ev (.load1 sh2 rfl (hb_1.cell rfl)) rfl rfl ?_
                            refine RL.ev (.bin rfl rfl rfl) rfl rfl ?_
                            refine RL.ev (.pick_f rfl rfl) rfl rfl ?_
                            refine RL.ev (.pick_t rfl rfl) rfl rfl ?_
                            refine RL.ev (.assign rfl) rfl rfl ?_
                            refine RL.nil (RC.back ?_)
                            refine RC.done (rs := [.tmp 2]) (vs := [_]) rfl rfl ⟨rfl, trivial⟩ ?_
                            -- end 12
                            exact ⟨congrArg Value.bool (by (first | exact (decide_eq_true (by (try simp only [okP, kindP, hasAP, hasBP] at *); omega)).symm | exact (decide_eq_false (by (try simp only [okP, kindP, hasAP, hasBP] at *); omega)).symm | exact decide_eq_decide.2 (by (try simp only [okP, kindP, hasAP, hasBP] at *); omega))), S⟩
                        ·
                          refine RL.ev (.field0 fo40_2 rfl) rfl rfl ?_
                          refine RL.ev (.load1 sh2 rfl (hb_1.cell rfl)) rfl rfl ?_
                          refine RL.ev (.bin rfl rfl rfl) rfl rfl ?_
                          refine RL.ev (.pick_f rfl rfl) rfl rfl ?_
                          refine RL.ev (.move rfl) rfl rfl ?_
                          refine RL.split 69 rfl (fun h18 => ?_) (fun h18 => ?_)
                          ·
                            refine RL.ev (.field0 fo40_0 rfl) rfl rfl ?_
                            refine RL.ev (.load1 sh3 rfl (hb_1.cell rfl)) rfl rfl ?_
                            refine RL.ev (.field0 fo40_1 rfl) rfl rfl ?_
                            refine RL.ev (.load1 sh3 rfl (hb_1.cell rfl)) rfl rfl ?_
                            refine RL.call rfl ok30 (c_hasB o.box o.kind w12) rfl rfl ?_
                            rintro _ w19 ⟨rfl, s20⟩
                            have S := S.trans s20
                            have hb_1 := hb_1.sub s20
                            refine RL.ev (.move rfl) rfl rfl ?_
                            refine RL.split 75 rfl (fun h21 => ?_) (fun h21 => ?_)
                            ·
                              refine RL.off rfl rfl ?_
                              refine RL.off rfl rfl ?_
                              refine RL.off rfl rfl ?_
                              refine RL.ev (.pick_t rfl rfl) rfl rfl ?_
                              refine RL.ev (.pick_t rfl rfl) rfl rfl ?_
                              refine RL.ev (.assign rfl) rfl rfl ?_
                              refine RL.nil (RC.back ?_)
                              refine RC.done (rs := [.tmp 2]) (vs := [_]) rfl rfl ⟨rfl, trivial⟩ ?_
                              -- end 13
                              exact ⟨congrArg Value.bool (by (first | exact (decide_eq_true (by (try simp only [okP, kindP, hasAP, hasBP] at *); omega)).symm | exact (decide_eq_false (by (try simp only [okP, kindP, hasAP, hasBP] at *); omega)).symm | exact decide_eq_decide.2 (by (try simp only [okP, kindP, hasAP, hasBP] at *); omega))), S⟩
                            ·
                              refine RL.ev (.field0 fo40_3 rfl) rfl rfl ?_
                              refine RL.ev (.load1 sh2 rfl (hb_1.cell rfl)) rfl rfl ?_
                              refine RL.ev (.bin rfl rfl rfl) rfl rfl ?_
                              refine RL.ev (.pick_f rfl rfl) rfl rfl ?_
                              refine RL.ev (.pick_t rfl rfl) rfl rfl ?_
                              refine RL.ev (.assign rfl) rfl rfl ?_
                              refine RL.nil (RC.back ?_)
                              refine RC.done (rs := [.tmp 2]) (vs := [_]) rfl rfl ⟨rfl, trivial⟩ ?_
                              -- end 14
                              exact ⟨congrArg Value.bool (by (first | exact (decide_eq_true (by (try simp only [okP, kindP, hasAP, hasBP] at *); omega)).symm | exact (decide_eq_false (by (try simp only [okP, kindP, hasAP, hasBP] at *); omega)).symm | exact decide_eq_decide.2 (by (try simp only [okP, kindP, hasAP, hasBP] at *); omega))), S⟩
                          ·
                            refine RL.off rfl rfl ?_
                            refine RL.off rfl rfl ?_
                            refine RL.off rfl rfl ?_
                            refine RL.off rfl rfl ?_
                            refine RL.off rfl rfl ?_
                            refine RL.off rfl rfl ?_
                            refine RL.off rfl rfl ?_
                            refine RL.off rfl rfl ?_
                            refine RL.off rfl rfl ?_
                            refine RL.off rfl rfl ?_
                            refine RL.ev (.pick_f rfl rfl) rfl rfl ?_
                            refine RL.ev (.assign rfl) rfl rfl ?_
                            refine RL.nil (RC.back ?_)
                            refine RC.done (rs := [.tmp 2]) (vs := [_]) rfl rfl ⟨rfl, trivial⟩ ?_
                            -- end 15
                            exact ⟨congrArg Value.bool (by (first | exact (decide_eq_true (by (try simp only [okP, kindP, hasAP, hasBP] at *); omega)).symm | exact (decide_eq_false (by (try simp only [okP, kindP, hasAP, hasBP] at *); omega)).symm | exact decide_eq_decide.2 (by (try simp only [okP, kindP, hasAP, hasBP] at *); omega))), S⟩
          ·
            refine RL.ev (.field0 fo40_0 rfl) rfl rfl ?_
            refine RL.ev (.load1 sh3 rfl (hb_1.cell rfl)) rfl rfl ?_
            refine RL.ev (.bin rfl rfl rfl) rfl rfl ?_
            refine RL.ev (.pick_f rfl rfl) rfl rfl ?_
            refine RL.ev (.move rfl) rfl rfl ?_
            refine RL.split 30 rfl (fun h22 => ?_) (fun h22 => ?_)
            ·
              refine RL.ev (.field0 fo40_1 rfl) rfl rfl ?_
              refine RL.ev (.load1 sh3 rfl (hb_1.cell rfl)) rfl rfl ?_
              refine RL.ev (.bin rfl rfl rfl) rfl rfl ?_
              refine RL.ev (.move rfl) rfl rfl ?_
              refine RL.split 34 rfl (fun h23 => ?_) (fun h23 => ?_)
              ·
                refine RL.off rfl rfl ?_
                refine RL.off rfl rfl ?_
                refine RL.off rfl rfl ?_
                refine RL.ev (.pick_t rfl rfl) rfl rfl ?_
                refine RL.ev (.pick_t rfl rfl) rfl rfl ?_
                refine RL.ev (.pick_f rfl rfl) rfl rfl ?_
                refine RL.nil (RC.back ?_)
                refine RC.cond_t rfl ?_
                refine RC.seq ?_
                refine RC.region rfl ?_
                refine RL.ev (.assign rfl) rfl rfl ?_
                refine RL.nil (RC.back ?_)
                refine RC.done (rs := [.tmp 2]) (vs := [_]) rfl rfl ⟨rfl, trivial⟩ ?_
                -- end 16
                exact ⟨congrArg Value.bool (by (first | exact (decide_eq_true (by (try simp only [okP, kindP, hasAP, hasBP] at *); omega)).symm | exact (decide_eq_false (by (try simp only [okP, kindP, hasAP, hasBP] at *); omega)).symm | exact decide_eq_decide.2 (by (try simp only [okP, kindP, hasAP, hasBP] at *); omega))), S⟩
              ·
                refine RL.ev (.field0 fo40_1 rfl) rfl rfl ?_
                refine RL.ev (.load1 sh3 rfl (hb_1.cell rfl)) rfl rfl ?_
                refine RL.ev (.bin rfl rfl rfl) rfl rfl ?_
                refine RL.ev (.pick_f rfl rfl) rfl rfl ?_
                refine RL.ev (.pick_t rfl rfl) rfl rfl ?_
                refine RL.ev (.pick_f rfl rfl) rfl rfl ?_
                refine RL.nil (RC.back ?_)
                refine RC.cond_dec rfl (fun h24 => ?_) (fun h24 => ?_)
                ·
                  refine RC.seq ?_
                  refine RC.region rfl ?_
                  refine RL.ev (.assign rfl) rfl rfl ?_
                  refine RL.nil (RC.back ?_)
                  refine RC.done (rs := [.tmp 2]) (vs := [_]) rfl rfl ⟨rfl, trivial⟩ ?_
                  -- end 17
                  exact ⟨congrArg Value.bool (by (first | exact (decide_eq_true (by (try simp only [okP, kindP, hasAP, hasBP] at *); omega)).symm | exact (decide_eq_false (by (try simp only [okP, kindP, hasAP, hasBP] at *); omega)).symm | exact decide_eq_decide.2 (by (try simp only [okP, kindP, hasAP, hasBP] at *); omega))), S⟩
                ·
                  refine RC.skip (RC.back ?_)
                  refine RC.seq ?_
                  refine RC.seq ?_
                  refine RC.region rfl ?_
                  refine RL.ev (.field0 fo40_2 rfl) rfl rfl ?_
                  refine RL.ev (.load1 sh2 rfl (hb_1.cell rfl)) rfl rfl ?_
                  refine RL.ev (.bin rfl rfl rfl) rfl rfl ?_
                  refine RL.ev (.move rfl) rfl rfl ?_
                  refine RL.split 44 rfl (fun h25 => ?_) (fun h25 => ?_)
                  ·
                    refine RL.off rfl rfl ?_
                    refine RL.off rfl rfl ?_
                    refine RL.off rfl rfl ?_
                    refine RL.ev (.pick_t rfl rfl) rfl rfl ?_
                    refine RL.ev (.move rfl) rfl rfl ?_
                    refine RL.off rfl rfl ?_
                    refine RL.off rfl rfl ?_
                    refine RL.off rfl rfl ?_
                    refine RL.ev (.pick_t rfl rfl) rfl rfl ?_
                    refine RL.ev (.move rfl) rfl rfl ?_
                    refine RL.off rfl rfl ?_
                    refine RL.off rfl rfl ?_
                    refine RL.off rfl rfl ?_
                    refine RL.ev (.pick_t rfl rfl) rfl rfl ?_
                    refine RL.nil (RC.back ?_)
                    refine RC.cond_t rfl ?_
                    refine RC.seq ?_
                    refine RC.region rfl ?_
                    refine RL.ev (.assign rfl) rfl rfl ?_
                    refine RL.nil (RC.back ?_)
                    refine RC.done (rs := [.tmp 2]) (vs := [_]) rfl rfl ⟨rfl, trivial⟩ ?_
                    -- end 18
                    exact ⟨congrArg Value.bool (by (first | exact (decide_eq_true (by (try simp only [okP, kindP, hasAP, hasBP] at *); omega)).symm | exact (decide_eq_false (by (try simp only [okP, kindP, hasAP, hasBP] at *); omega)).symm | exact decide_eq_decide.2 (by (try simp only [okP, kindP, hasAP, hasBP] at *); omega))), S⟩
                  ·
                    refine RL.ev (.field0 fo40_2 rfl) rfl rfl ?_
                    refine RL.ev (.load1 sh2 rfl (hb_1.cell rfl)) rfl rfl ?_
                    refine RL.ev (.bin rfl rfl rfl) rfl rfl ?_
                    refine RL.ev (.pick_f rfl rfl) rfl rfl ?_
                    refine RL.ev (.move rfl) rfl rfl ?_
                    refine RL.split 49 rfl (fun h26 => ?_) (fun h26 => ?_)
                    ·
                      refine RL.off rfl rfl ?_
                      refine RL.off rfl rfl ?_
                      refine RL.off rfl rfl ?_
                      refine RL.ev (.pick_t rfl rfl) rfl rfl ?_
                      refine RL.ev (.move rfl) rfl rfl ?_
                      refine RL.off rfl rfl ?_
                      refine RL.off rfl rfl ?_
                      refine RL.off rfl rfl ?_
                      refine RL.ev (.pick_t rfl rfl) rfl rfl ?_
                      refine RL.nil (RC.back ?_)
                      refine RC.cond_t rfl ?_
                      refine RC.seq ?_
                      refine RC.region rfl ?_
                      refine RL.ev (.assign rfl) rfl rfl ?_
                      refine RL.nil (RC.back ?_)
                      refine RC.done (rs := [.tmp 2]) (vs := [_]) rfl rfl ⟨rfl, trivial⟩ ?_
                      -- end 19
                      exact ⟨congrArg Value.bool (by (first | exact (decide_eq_true (by (try simp only [okP, kindP, hasAP, hasBP] at *); omega)).symm | exact (decide_eq_false (by (try simp only [okP, kindP, hasAP, hasBP] at *); omega)).symm | exact decide_eq_decide.2 (by (try simp only [okP, kindP, hasAP, hasBP] at *); omega))), S⟩
                    ·
                      refine RL.ev (.field0 fo40_3 rfl) rfl rfl ?_
                      refine RL.ev (.load1 sh2 rfl (hb_1.cell rfl)) rfl rfl ?_
                      refine RL.ev (.bin rfl rfl rfl) rfl rfl ?_
                      refine RL.ev (.pick_f rfl rfl) rfl rfl ?_
                      refine RL.ev (.move rfl) rfl rfl ?_
                      refine RL.split 54 rfl (fun h27 => ?_) (fun h27 => ?_)
                      ·
                        refine RL.off rfl rfl ?_
                        refine RL.off rfl rfl ?_
                        refine RL.off rfl rfl ?_
                        refine RL.ev (.pick_t rfl rfl) rfl rfl ?_
                        refine RL.nil (RC.back ?_)
                        refine RC.cond_t rfl ?_
                        refine RC.seq ?_
                        refine RC.region rfl ?_
                        refine RL.ev (.assign rfl) rfl rfl ?_
                        refine RL.nil (RC.back ?_)
                        refine RC.done (rs := [.tmp 2]) (vs := [_]) rfl rfl ⟨rfl, trivial⟩ ?_
                        -- end 20
                        exact ⟨congrArg Value.bool (by (first | exact (decide_eq_true (by (try simp only [okP, kindP, hasAP, hasBP] at *); omega)).symm | exact (decide_eq_false (by (try simp only [okP, kindP, hasAP, hasBP] at *); omega)).symm | exact decide_eq_decide.2 (by (try simp only [okP, kindP, hasAP, hasBP] at *); omega))), S⟩
                      ·
                        refine RL.ev (.field0 fo40_3 rfl) rfl rfl ?_
                        refine RL.ev (.load1 sh2 rfl (hb_1.cell rfl)) rfl rfl ?_
                        refine RL.ev (.bin rfl rfl rfl) rfl rfl ?_
                        refine RL.ev (.pick_f rfl rfl) rfl rfl ?_
                        refine RL.nil (RC.back ?_)
                        refine RC.cond_dec rfl (fun h28 => ?_) (fun h28 => ?_)
                        ·
                          refine RC.seq ?_
                          refine RC.region rfl ?_
                          refine RL.ev (.assign rfl) rfl rfl ?_
                          refine RL.nil (RC.back ?_)
                          refine RC.done (rs := [.tmp 2]) (vs := [_]) rfl rfl ⟨rfl, trivial⟩ ?_
                          -- end 21
                          exact ⟨congrArg Value.bool (by (first | exact (decide_eq_true (by (try simp only [okP, kindP, hasAP, hasBP] at *); omega)).symm | exact (decide_eq_false (by (try simp only [okP, kindP, hasAP, hasBP] at *); omega)).symm | exact decide_eq_decide.2 (by (try simp only [okP, kindP, hasAP, hasBP] at *); omega))), S⟩
                        ·
                          refine RC.skip (RC.back ?_)
                          refine RC.seq ?_
                          refine RC.region rfl ?_
                          refine RL.ev (.field0 fo40_0 rfl) rfl rfl ?_
                          refine RL.ev (.load1 sh3 rfl (hb_1.cell rfl)) rfl rfl ?_
                          refine RL.ev (.field0 fo40_1 rfl) rfl rfl ?_
                          refine RL.ev (.load1 sh3 rfl (hb_1.cell rfl)) rfl rfl ?_
                          refine RL.call rfl ok29 (c_hasA o.box o.kind w_1) rfl rfl ?_
                          rintro _ w29 ⟨rfl, s30⟩
                          have S := S.trans s30
                          have hb_1 := hb_1.sub s30
                          refine RL.ev (.move rfl) rfl rfl ?_
                          refine RL.split 64 rfl (fun h31 => ?_) (fun h31 => ?_)
                          ·
                            refine RL.off rfl rfl ?_
                            refine RL.off rfl rfl ?_
                            refine RL.off rfl rfl ?_
                            refine RL.ev (.pick_t rfl rfl) rfl rfl ?_
                            refine RL.ev (.move rfl) rfl rfl ?_
                            refine RL.ev (.field0 fo40_0 rfl) rfl rfl ?_
                            refine RL.ev (.load1 sh3 rfl (hb_1.cell rfl)) rfl rfl ?_
                            refine RL.ev (.field0 fo40_1 rfl) rfl rfl ?_
                            refine RL.ev (.load1 sh3 rfl (hb_1.cell rfl)) rfl rfl ?_
                            refine RL.call rfl ok30 (c_hasB o.box o.kind w29) rfl rfl ?_
                            rintro _ w32 ⟨rfl, s33⟩
                            have S := S.trans s33
                            have hb_1 := hb_1.sub s33
                            refine RL.ev (.move rfl) rfl rfl ?_
                            refine RL.split 75 rfl (fun h34 => ?_) (fun h34 => ?_)
                            ·
                              refine RL.off rfl rfl ?_
                              refine RL.off rfl rfl ?_
                              refine RL.off rfl rfl ?_
                              refine RL.ev (.pick_t rfl rfl) rfl rfl ?_
                              refine RL.ev (.pick_t rfl rfl) rfl rfl ?_
                              refine RL.ev (.assign rfl) rfl rfl ?_
                              refine RL.nil (RC.back ?_)
                              refine RC.done (rs := [.tmp 2]) (vs := [_]) rfl rfl ⟨rfl, trivial⟩ ?_
                              -- end 22
                              exact ⟨congrArg Value.bool (by (first | exact (decide_eq_true (by (try simp only [okP, kindP, hasAP, hasBP] at *); omega)).symm | exact (decide_eq_false (by (try simp only [okP, kindP, hasAP, hasBP] at *); omega)).symm | exact decide_eq_decide.2 (by (try simp only [okP, kindP, hasAP, hasBP] at *); omega))), S⟩
                            ·
                              refine RL.ev (.field0 fo40_3 rfl) rfl rfl ?_
                              refine RL.ev (.load1 sh2 rfl (hb_1.cell rfl)) rfl rfl ?_
                              refine RL.ev (.bin rfl rfl rfl) rfl rfl ?_
                              refine RL.ev (.pick_f rfl rfl) rfl rfl ?_
                              refine RL.ev (.pick_t rfl rfl) rfl rfl ?_
                              refine RL.ev (.assign rfl) rfl rfl ?_
                              refine RL.nil (RC.back ?_)
                              refine RC.done (rs := [.tmp 2]) (vs := [_]) rfl rfl ⟨rfl, trivial⟩ ?_
                              -- end 23
                              exact ⟨congrArg Value.bool (by (first | exact (decide_eq_true (by (try simp only [okP, kindP, hasAP, hasBP] at *); omega)).symm | exact (decide_eq_false (by (try simp only [okP, kindP, hasAP, hasBP] at *); omega)).symm | exact decide_eq_decide.2 (by (try simp only [okP, kindP, hasAP, hasBP] at *); omega))), S⟩
                          ·
                            refine RL.ev (.field0 fo40_2 rfl) rfl rfl ?_
                            refine RL.ev (.load1 sh2 rfl (hb_1.cell rfl)) rfl rfl ?_
                            refine RL.ev (.bin rfl rfl rfl) rfl rfl ?_
                            refine RL.ev (.pick_f rfl rfl) rfl rfl ?_
                            refine RL.ev (.move rfl) rfl rfl ?_
                            refine RL.split 69 rfl (fun h35 => ?_) (fun h35 => ?_)
                            ·
                              refine RL.ev (.field0 fo40_0 rfl) rfl rfl ?_
                              refine RL.ev (.load1 sh3 rfl (hb_1.cell rfl)) rfl rfl ?_
                              refine RL.ev (.field0 fo40_1 rfl) rfl rfl ?_
                              refine RL.ev (.load1 sh3 rfl (hb_1.cell rfl)) rfl rfl ?_
                              refine RL.call rfl ok30 (c_hasB o.box o.kind w29) rfl rfl ?_
                              rintro _ w36 ⟨rfl, s37⟩
                              have S := S.trans s37
                              have hb_1 := hb_1.sub s37
                              refine RL.ev (.move rfl) rfl rfl ?_
                              refine RL.split 75 rfl (fun h38 => ?_) (fun h38 => ?_)
                              ·
                                refine RL.off rfl rfl ?_
                                refine RL.off rfl rfl ?_
                                refine RL.off rfl rfl ?_
                                refine RL.ev (.pick_t rfl rfl) rfl rfl ?_
                                refine RL.ev (.pick_t rfl rfl) rfl rfl ?_
                                refine RL.ev (.assign rfl) rfl rfl ?_
                                refine RL.nil (RC.back ?_)
                                refine RC.done (rs := [.tmp 2]) (vs := [_]) rfl rfl ⟨rfl, trivial⟩ ?_
                                -- end 24
                                exact ⟨congrArg Value.bool (by (first | exact (decide_eq_true (by (try simp only [okP, kindP, hasAP, hasBP] at *); omega)).symm | exact (decide_eq_false (by (try simp only [okP, kindP, hasAP, hasBP] at *); omega)).symm | exact decide_eq_decide.2 (by (try simp only [okP, kindP, hasAP, hasBP] at *); omega))), S⟩
                              ·
                                refine RL.ev (.field0 fo40_3 rfl) rfl rfl ?_
                                refine RL.ev (.load1 sh2 rfl (hb_1.cell rfl)) rfl rfl ?_
                                refine RL.ev (.bin rfl rfl rfl) rfl rfl ?_
                                refine RL.ev (.pick_f rfl rfl) rfl rfl ?_
                                refine RL.ev (.pick_t rfl rfl) rfl rfl ?_
                                refine RL.ev (.assign rfl) rfl rfl ?_
                                refine RL.nil (RC.back ?_)
                                refine RC.done (rs := [.tmp 2]) (vs := [_]) rfl rfl ⟨rfl, trivial⟩ ?_
                                -- end 25
                                exact ⟨congrArg Value.bool (by (first | exact (decide_eq_true (by (try simp only [okP, kindP, hasAP, hasBP] at *); omega)).symm | exact (decide_eq_false (by (try simp only [okP, kindP, hasAP, hasBP] at *); omega)).symm | exact decide_eq_decide.2 (by (try simp only [okP, kindP, hasAP, hasBP] at *); omega))), S⟩
                            ·
                              refine RL.off rfl rfl ?_
                              refine RL.off rfl rfl ?_
                              refine RL.off rfl rfl ?_
                              refine RL.off rfl rfl ?_
                              refine RL.off rfl rfl ?_
                              refine RL.off rfl rfl ?_
                              refine RL.off rfl rfl ?_
                              refine RL.off rfl rfl ?_
                              refine RL.off rfl rfl ?_
                              refine RL.off rfl rfl ?_
                              refine RL.ev (.pick_f rfl rfl) rfl rfl ?_
                              refine RL.ev (.assign rfl) rfl rfl ?_
                              refine RL.nil (RC.back ?_)
                              refine RC.done (rs := [.tmp 2]) (vs := [_]) rfl rfl ⟨rfl, trivial⟩ ?_
                              -- end 26
                              exact ⟨congrArg Value.bool (by (first | exact (decide_eq_true (by (try simp only [okP, kindP, hasAP, hasBP] at *); omega)).symm | exact (decide_eq_false (by (try simp only [okP, kindP, hasAP, hasBP] at *); omega)).symm | exact decide_eq_decide.2 (by (try simp only [okP, kindP, hasAP, hasBP] at *); omega))), S⟩
            ·
              refine RL.off rfl rfl ?_
              refine RL.off rfl rfl ?_
              refine RL.off rfl rfl ?_
              refine RL.off rfl rfl ?_
              refine RL.off rfl rfl ?_
              refine RL.off rfl rfl ?_
              refine RL.off rfl rfl ?_
              refine RL.off rfl rfl ?_
              refine RL.ev (.pick_f rfl rfl) rfl rfl ?_
              refine RL.ev (.pick_f rfl rfl) rfl rfl ?_
              refine RL.nil (RC.back ?_)
              refine RC.cond_f rfl ?_
              refine RC.skip (RC.back ?_)
              refine RC.seq ?_
              refine RC.seq ?_
              refine RC.region rfl ?_
              refine RL.ev (.field0 fo40_2 rfl) rfl rfl ?_
              refine RL.ev (.load1 sh2 rfl (hb_1.cell rfl)) rfl rfl ?_
              refine RL.ev (.bin rfl rfl rfl) rfl rfl ?_
              refine RL.ev (.move rfl) rfl rfl ?_
              refine RL.split 44 rfl (fun h39 => ?_) (fun h39 => ?_)
              ·
                refine RL.off rfl rfl ?_
                refine RL.off rfl rfl ?_
                refine RL.off rfl rfl ?_
                refine RL.ev (.pick_t rfl rfl) rfl rfl ?_
                refine RL.ev (.move rfl) rfl rfl ?_
                refine RL.off rfl rfl ?_
                refine RL.off rfl rfl ?_
                refine RL.off rfl rfl ?_
                refine RL.ev (.pick_t rfl rfl) rfl rfl ?_
                refine RL.ev (.move rfl) rfl rfl ?_
                refine RL.off rfl rfl ?_
                refine RL.off rfl rfl ?_
                refine RL.off rfl rfl ?_
                refine RL.ev (.pick_t rfl rfl) rfl rfl ?_
                refine RL.nil (RC.back ?_)
                refine RC.cond_t rfl ?_
                refine RC.seq ?_
                refine RC.region rfl ?_
                refine RL.ev (.assign rfl) rfl rfl ?_
                refine RL.nil (RC.back ?_)
                refine RC.done (rs := [.tmp 2]) (vs := [_]) rfl rfl ⟨rfl, trivial⟩ ?_
                -- end 27
                exact ⟨congrArg Value.bool (by (first | exact (decide_eq_true (by (try simp only [okP, kindP, hasAP, hasBP] at *); omega)).symm | exact (decide_eq_false (by (try simp only [okP, kindP, hasAP, hasBP] at *); omega)).symm | exact decide_eq_decide.2 (by (try simp only [okP, kindP, hasAP, hasBP] at *); omega))), S⟩
              ·
                refine RL.ev (.field0 fo40_2 rfl) rfl rfl ?_
                refine RL.ev (.load1 sh2 rfl (hb_1.cell rfl)) rfl rfl ?_
                refine RL.ev (.bin rfl rfl rfl) rfl rfl ?_
                refine RL.ev (.pick_f rfl rfl) rfl rfl ?_
                refine RL.ev (.move rfl) rfl rfl ?_
                refine RL.split 49 rfl (fun h40 => ?_) (fun h40 => ?_)
                ·
                  refine RL.off rfl rfl ?_
                  refine RL.off rfl rfl ?_
                  refine RL.off rfl rfl ?_
                  refine RL.ev (.pick_t rfl rfl) rfl rfl ?_
                  refine RL.ev (.move rfl) rfl rfl ?_
                  refine RL.off rfl rfl ?_
                  refine RL.off rfl rfl ?_
                  refine RL.off rfl rfl ?_
                  refine RL.ev (.pick_t rfl rfl) rfl rfl ?_
                  refine RL.nil (RC.back ?_)
                  refine RC.cond_t rfl ?_
                  refine RC.seq ?_
                  refine RC.region rfl ?_
                  refine RL.ev (.assign rfl) rfl rfl ?_
                  refine RL.nil (RC.back ?_)
                  refine RC.done (rs := [.tmp 2]) (vs := [_]) rfl rfl ⟨rfl, trivial⟩ ?_
                  -- end 28
                  exact ⟨congrArg Value.bool (by (first | exact (decide_eq_true (by (try simp only [okP, kindP, hasAP, hasBP] at *); omega)).symm | exact (decide_eq_false (by (try simp only [okP, kindP, hasAP, hasBP] at *); omega)).symm | exact decide_eq_decide.2 (by (try simp only [okP, kindP, hasAP, hasBP] at *); omega))), S⟩
                ·
                  refine RL.ev (.field0 fo40_3 rfl) rfl rfl ?_
                  refine RL.ev (.load1 sh2 rfl (hb_1.cell rfl)) rfl rfl ?_
                  refine RL.ev (.bin rfl rfl rfl) rfl rfl ?_
                  refine RL.ev (.pick_f rfl rfl) rfl rfl ?_
                  refine RL.ev (.move rfl) rfl rfl ?_
                  refine RL.split 54 rfl (fun h41 => ?_) (fun h41 => ?_)
                  ·
                    refine RL.off rfl rfl ?_
                    refine RL.off rfl rfl ?_
                    refine RL.off rfl rfl ?_
                    refine RL.ev (.pick_t rfl rfl) rfl rfl ?_
                    refine RL.nil (RC.back ?_)
                    refine RC.cond_t rfl ?_
                    refine RC.seq ?_
                    refine RC.region rfl ?_
                    refine RL.ev (.assign rfl) rfl rfl ?_
                    refine RL.nil (RC.back ?_)
                    refine RC.done (rs := [.tmp 2]) (vs := [_]) rfl rfl ⟨rfl, trivial⟩ ?_
                    -- end 29
                    exact ⟨congrArg Value.bool (by (first | exact (decide_eq_true (by (try simp only [okP, kindP, hasAP, hasBP] at *); omega)).symm | exact (decide_eq_false (by (try simp only [okP, kindP, hasAP, hasBP] at *); omega)).symm | exact decide_eq_decide.2 (by (try simp only [okP, kindP, hasAP, hasBP] at *); omega))), S⟩
                  ·
                    refine RL.ev (.field0 fo40_3 rfl) rfl rfl ?_
                    refine RL.ev (.load1 sh2 rfl (hb_1.cell rfl)) rfl rfl ?_
                    refine RL.ev (.bin rfl rfl rfl) rfl rfl ?_
                    refine RL.ev (.pick_f rfl rfl) rfl rfl ?_
                    refine RL.nil (RC.back ?_)
                    refine RC.cond_dec rfl (fun h42 => ?_) (fun h42 => ?_)
                    ·
                      refine RC.seq ?_
                      refine RC.region rfl ?_
                      refine RL.ev (.assign rfl) rfl rfl ?_
                      refine RL.nil (RC.back ?_)
                      refine RC.done (rs := [.tmp 2]) (vs := [_]) rfl rfl ⟨rfl, trivial⟩ ?_
                      -- end 30
                      exact ⟨congrArg Value.bool (by (first | exact (decide_eq_true (by (try simp only [okP, kindP, hasAP, hasBP] at *); omega)).symm | exact (decide_eq_false (by (try simp only [okP, kindP, hasAP, hasBP] at *); omega)).symm | exact decide_eq_decide.2 (by (try simp only [okP, kindP, hasAP, hasBP] at *); omega))), S⟩
                    ·
                      refine RC.skip (RC.back ?_)
                      refine RC.seq ?_
                      refine RC.region rfl ?_
                      refine RL.ev (.field0 fo40_0 rfl) rfl rfl ?_
                      refine RL.ev (.load1 sh3 rfl (hb_1.cell rfl)) rfl rfl ?_
                      refine RL.ev (.field0 fo40_1 rfl) rfl rfl ?_
                      refine RL.ev (.load1 sh3 rfl (hb_1.cell rfl)) rfl rfl ?_
                      refine RL.call rfl ok29 (c_hasA o.box o.kind w_1) rfl rfl ?_
                      rintro _ w43 ⟨rfl, s44⟩
                      have S := S.trans s44
                      have hb_1 := hb_1.sub s44
                      refine RL.ev (.move rfl) rfl rfl ?_
                      refine RL.split 64 rfl (fun h45 => ?_) (fun h45 => ?_)
                      ·
                        refine RL.off rfl rfl ?_
                        refine RL.off rfl rfl ?_
                        refine RL.off rfl rfl ?_
                        refine RL.ev (.pick_t rfl rfl) rfl rfl ?_
                        refine RL.ev (.move rfl) rfl rfl ?_
                        refine RL.ev (.field0 fo40_0 rfl) rfl rfl ?_
                        refine RL.ev (.load1 sh3 rfl (hb_1.cell rfl)) rfl rfl ?_
                        refine RL.ev (.field0 fo40_1 rfl) rfl rfl ?_
                        refine RL.ev (.load1 sh3 rfl (hb_1.cell rfl)) rfl rfl ?_
                        refine RL.call rfl ok30 (c_hasB o.box o.kind w43) rfl rfl ?_
                        rintro _ w46 ⟨rfl, s47⟩
                        have S := S.trans s47
                        have hb_1 := hb_1.sub s47
                        refine RL.ev (.move rfl) rfl rfl ?_
                        refine RL.split 75 rfl (fun h48 => ?_) (fun h48 => ?_)
                        ·
                          refine RL.off rfl rfl ?_
                          refine RL.off rfl rfl ?_
                          refine RL.off rfl rfl ?_
                          refine RL.ev (.pick_t rfl rfl) rfl rfl ?_
                          refine RL.ev (.pick_t rfl rfl) rfl rfl ?_
                          refine RL.ev (.assign rfl) rfl rfl ?_
                          refine RL.nil (RC.back ?_)
                          refine RC.done (rs := [.tmp 2]) (vs := [_]) rfl rfl ⟨rfl, trivial⟩ ?_
                          -- end 31
                          exact ⟨congrArg Value.bool (by (first | exact (decide_eq_true (by (try simp only [okP, kindP, hasAP, hasBP] at *); omega)).symm | exact (decide_eq_false (by (try simp only [okP, kindP, hasAP, hasBP] at *); omega)).symm | exact decide_eq_decide.2 (by (try simp only [okP, kindP, hasAP, hasBP] at *); omega))), S⟩
                        ·
                          refine RL.ev (.field0 fo40_3 rfl) rfl rfl ?_
                          refine RL.ev (.load1 sh2 rfl (hb_1.cell rfl)) rfl rfl ?_
                          refine RL.ev (.bin rfl rfl rfl) rfl rfl ?_
                          refine RL.ev (.pick_f rfl rfl) rfl rfl ?_
                          refine RL.ev (.pick_t rfl rfl) rfl rfl ?_
                          refine RL.ev (.assign rfl) rfl rfl ?_
                          refine RL.nil (RC.back ?_)
                          refine RC.done (rs := [.tmp 2]) (vs := [_]) rfl rfl ⟨rfl, trivial⟩ ?_
                          -- end 32
                          exact ⟨congrArg Value.bool (by (first | exact (decide_eq_true (by (try simp only [okP, kindP, hasAP, hasBP] at *); omega)).symm | exact (decide_eq_false (by (try simp only [okP, kindP, hasAP, hasBP] at *); omega)).symm | exact decide_eq_decide.2 (by (try simp only [okP, kindP, hasAP, hasBP] at *); omega))), S⟩
                      ·
                        refine RL.ev (.field0 fo40_2 rfl) rfl rfl ?_
                        refine RL.ev (.load1 sh2 rfl (hb_1.cell rfl)) rfl rfl ?_
                        refine RL.ev (.bin rfl rfl rfl) rfl rfl ?_
                        refine RL.ev (.pick_f rfl rfl) rfl rfl ?_
                        refine RL.ev (.move rfl) rfl rfl ?_
                        refine RL.split 69 rfl (fun h49 => ?_) (fun h49 => ?_)
                        ·
                          refine RL.ev (.field0 fo40_0 rfl) rfl rfl ?_
                          refine RL.ev (.load1 sh3 rfl (hb_1.cell rfl)) rfl rfl ?_
                          refine RL.ev (.field0 fo40_1 rfl) rfl rfl ?_
                          refine RL.ev (.load1 sh3 rfl (hb_1.cell rfl)) rfl rfl ?_
                          refine RL.call rfl ok30 (c_hasB o.box o.kind w43) rfl rfl ?_
                          rintro _ w50 ⟨rfl, s51⟩
                          have S := S.trans s51
                          have hb_1 := hb_1.sub s51
                          refine RL.ev (.move rfl) rfl rfl ?_
                          refine RL.split 75 rfl (fun h52 => ?_) (fun h52 => ?_)
                          ·
                            refine RL.off rfl rfl ?_
                            refine RL.off rfl rfl ?_
                            refine RL.off rfl rfl ?_
                            refine RL.ev (.pick_t rfl rfl) rfl rfl ?_
                            refine RL.ev (.pick_t rfl rfl) rfl rfl ?_
                            refine RL.ev (.assign rfl) rfl rfl ?_
                            refine RL.nil (RC.back ?_)
                            refine RC.done (rs := [.tmp 2]) (vs := [_]) rfl rfl ⟨rfl, trivial⟩ ?_
                            -- end 33
                            exact ⟨congrArg Value.bool (by (first | exact (decide_eq_true (by (try simp only [okP, kindP, hasAP, hasBP] at *); omega)).symm | exact (decide_eq_false (by (try simp only [okP, kindP, hasAP, hasBP] at *); omega)).symm | exact decide_eq_decide.2 (by (try simp only [okP, kindP, hasAP, hasBP] at *); omega))), S⟩
                          ·
                            refine RL.ev (.field0 fo40_3 rfl) rfl rfl ?_
                            refine RL.ev (.load1 sh2 rfl (hb_1.cell rfl)) rfl rfl ?_
                            refine RL.ev (.bin rfl rfl rfl) rfl rfl ?_
                            refine RL.ev (.pick_f rfl rfl) rfl rfl ?_
                            refine RL.ev (.pick_t rfl rfl) rfl rfl ?_
                            refine RL.ev (.assign rfl) rfl rfl ?_
                            refine RL.nil (RC.back ?_)
                            refine RC.done (rs := [.tmp 2]) (vs := [_]) rfl rfl ⟨rfl, trivial⟩ ?_
                            -- end 34
                            exact ⟨congrArg Value.bool (by (first | exact (decide_eq_true (by (try simp only [okP, kindP, hasAP, hasBP] at *); omega)).symm | exact (decide_eq_false (by (try simp only [okP, kindP, hasAP, hasBP] at *); omega)).symm | exact decide_eq_decide.2 (by (try simp only [okP, kindP, hasAP, hasBP] at *); omega))), S⟩
                        ·
                          refine RL.off rfl rfl ?_
                          refine RL.off rfl rfl ?_
                          refine RL.off rfl rfl ?_
                          refine RL.off rfl rfl ?_
                          refine RL.off rfl rfl ?_
                          refine RL.off rfl rfl ?_
                          refine RL.off rfl rfl ?_
                          refine RL.off rfl rfl ?_
                          refine RL.off rfl rfl ?_
                          refine RL.off rfl rfl ?_
                          refine RL.ev (.pick_f rfl rfl) rfl rfl ?_
                          refine RL.ev (.assign rfl) rfl rfl ?_
                          refine RL.nil (RC.back ?_)
                          refine RC.done (rs := [.tmp 2]) (vs := [_]) rfl rfl ⟨rfl, trivial⟩ ?_
                          -- end 35
                          exact ⟨congrArg Value.bool (by (first | exact (decide_eq_true (by (try simp only [okP, kindP, hasAP, hasBP] at *); omega)).symm | exact (decide_eq_false (by (try simp only [okP, kindP, hasAP, hasBP] at *); omega)).symm | exact decide_eq_decide.2 (by (try simp only [okP, kindP, hasAP, hasBP] at *); omega))), S⟩
theorem opN_spec (b k : Int) : (kindP b k ∧ ∃ n, opN b k = some (.int .i64 n) ∧ (1 ≤ n ↔ hasAP b k) ∧ (n = 2 ↔ hasBP b k)) ∨ (¬ kindP b k ∧ opN b k = none) := by
  by_cases h : kindP b k
  · refine .inl ⟨h, ?_⟩
    have h' := h
    unfold kindP at h'
    have hb : b = 1 ∨ b = 2 ∨ b = 3 ∨ b = 4 := by omega
    have hk : k = 1 ∨ k = 2 ∨ k = 3 ∨ k = 4 ∨ k = 5 ∨ k = 6 := by omega
    rcases hb with rfl | rfl | rfl | rfl <;> rcases hk with rfl | rfl | rfl | rfl | rfl | rfl <;> first | exact absurd h (by decide) | exact ⟨_, rfl, by decide, by decide⟩
  · refine .inr ⟨h, ?_⟩
    unfold opN
    rw [List.find?_eq_none.2]
    · rfl
    intro e he
    simp only [opT, List.mem_cons, List.not_mem_nil, or_false] at he
    rw [decide_eq_true_iff]
    rintro ⟨rfl, rfl⟩
    rcases he with rfl | rfl | rfl | rfl | rfl | rfl | rfl | rfl | rfl | rfl | rfl | rfl | rfl | rfl | rfl | rfl | rfl | rfl | rfl | rfl <;> exact h (by decide)
theorem opN_get (b k : Int) : ∃ n, (opN b k).getD (.int .i64 0) = .int .i64 n ∧ (opN b k).isSome = decide (kindP b k) ∧ (kindP b k → (1 ≤ n ↔ hasAP b k) ∧ (n = 2 ↔ hasBP b k)) := by
  rcases opN_spec b k with ⟨h1, n, h2, h3, h4⟩ | ⟨h1, h2⟩
  · exact ⟨n, by rw [h2]; rfl, by rw [h2, decide_eq_true h1]; rfl, fun _ => ⟨h3, h4⟩⟩
  · exact ⟨0, by rw [h2]; rfl, by rw [h2, decide_eq_false h1]; rfl, fun h => absurd h h1⟩
theorem c_opRight (o : OpT) (w : World) : FC Try.prog 27 [.agg o.cells.toArray] w (Val (.bool (decide (okP o))) w) := by
  obtain ⟨m, hm1, hm2, hm3⟩ := opN_get o.box o.kind
  refine FC.intro Try.func27 rfl Try.ntmps27 rfl ?_
  have S := Sub.refl w
  refine RC.seq ?_
  refine RC.region rfl ?_
  refine RL.box rfl rfl rfl (fun b_1 w_1 e_1 z_1 hb_1 s_1 => ?_)
  have ge_1 := S.le e_1
  have S := S.trans s_1
  have hb_1 : Has w_1 b_1 ([.int .i64 o.box, .int .i64 o.kind, .int .i64 o.a, .int .i64 o.b]) _ := hb_1
  refine RL.ev (.assign rfl) rfl rfl ?_
  refine RL.nil (RC.back ?_)
  refine RC.seq ?_
  refine RC.drawD (fun k => False) [] w_1.heap.size 12 rfl rfl mxo (fun w1 s2 => ?_)
  have hNN : ∀ k, ((False) ∨ w_1.heap.size ≤ k) → w.heap.size ≤ k := fun k e => e.elim (fun e => e.elim) (fun e => Nat.le_trans S.size e)
  have ent_S := S.size
  have hN0 : ∀ k, w_1.heap.size ≤ k → w.heap.size ≤ k := fun k e => Nat.le_trans S.size e
  have ltD_b_1 := hb_1.lt
  have szD := Nat.le_refl w_1.heap.size
  have S := S.trans s2
  have hb_1 := hb_1.sub s2
  have szD := Nat.le_trans szD s2.size
  refine RD.take 1 rfl (by kernel_rfl) (by kernel_rfl) (by kernel_rfl) (fun w' s' => .field0 fo40_0 rfl) rfl rfl ?_
  refine RD.take 2 rfl (by kernel_rfl) (by kernel_rfl) (by kernel_rfl) (fun w' s' => .load1 sh3 rfl ((hb_1.step s' (fun e => e.elim (fun e => e.elim) (fun e => Nat.not_le.2 ltD_b_1 e))).cell rfl)) rfl rfl ?_
  refine RD.take 3 rfl (by kernel_rfl) (by kernel_rfl) (by kernel_rfl) (fun w' s' => .field0 fo40_1 rfl) rfl rfl ?_
  refine RD.take 4 rfl (by kernel_rfl) (by kernel_rfl) (by kernel_rfl) (fun w' s' => .load1 sh3 rfl ((hb_1.step s' (fun e => e.elim (fun e => e.elim) (fun e => Nat.not_le.2 ltD_b_1 e))).cell rfl)) rfl rfl ?_
  refine RD.take 5 rfl (by kernel_rfl) (by kernel_rfl) (by kernel_rfl) (fun w' s' => .buildS ze77 pl77 rfl rfl) rfl rfl ?_
  refine RD.all [0] (by kernel_rfl) rfl (RDs.cons rfl ?_ (RDs.nil))
  refine RL.call rfl ok38 (c_numbers w1) rfl rfl ?_
  rintro _ w3 ⟨s4, b6, rfl, hb6⟩
  have S := S.trans s4
  have hb_1 := hb_1.sub s4
  have szD := Nat.le_trans szD s4.size
  refine RD.back s4.agr ?_
  refine RD.all [6] (by kernel_rfl) rfl (RDs.cons rfl ?_ (RDs.nil))
  refine RL.ev (.lookupP (a := o.box) (c := o.kind) Try.underlying74 pair77 ze3 rfl rfl hb6) rfl rfl ?_
  refine RD.back (Agr.refl _ _) ?_
  refine RD.take 7 rfl (by kernel_rfl) (by kernel_rfl) (by kernel_rfl) (fun w' s' => .move rfl) rfl rfl ?_
  refine RD.take 8 rfl (by kernel_rfl) (by kernel_rfl) (by kernel_rfl) (fun w' s' => .as (v' := .int .i64 m) (.extract rfl rfl) (by exact hm1)) rfl rfl ?_
  refine RD.take 9 rfl (by kernel_rfl) (by kernel_rfl) (by kernel_rfl) (fun w' s' => .as (v' := .bool (decide (kindP o.box o.kind))) (.extract rfl rfl) (by exact congrArg Value.bool hm2)) rfl rfl ?_
  refine RD.take 10 rfl (by kernel_rfl) (by kernel_rfl) (by kernel_rfl) (fun w' s' => .assign rfl) rfl rfl ?_
  refine RD.take 11 rfl (by kernel_rfl) (by kernel_rfl) (by kernel_rfl) (fun w' s' => .assign rfl) rfl rfl ?_
  refine RD.done (by kernel_rfl) (RC.back ?_)
  refine RC.seq ?_
  refine RC.region rfl ?_
  refine RL.ev (.move rfl) rfl rfl ?_
  refine RL.ev (.move rfl) rfl rfl ?_
  refine RL.split 16 rfl (fun h5 => ?_) (fun h5 => ?_)
  ·
    have h16 : kindP o.box o.kind := h5
    have hm3 := hm3 h16
    refine RL.ev (.field0 fo40_2 rfl) rfl rfl ?_
    refine RL.ev (.load1 sh2 rfl (hb_1.cell rfl)) rfl rfl ?_
    refine RL.call rfl ok39 (c_within o.a w3) rfl rfl ?_
    rintro _ w6 ⟨rfl, s7⟩
    have S := S.trans s7
    have hb_1 := hb_1.sub s7
    refine RL.ev (.pick_t rfl rfl) rfl rfl ?_
    refine RL.ev (.move rfl) rfl rfl ?_
    refine RL.split 21 rfl (fun h8 => ?_) (fun h8 => ?_)
    ·
      refine RL.ev (.field0 fo40_3 rfl) rfl rfl ?_
      refine RL.ev (.load1 sh2 rfl (hb_1.cell rfl)) rfl rfl ?_
      refine RL.call rfl ok39 (c_within o.b w6) rfl rfl ?_
      rintro _ w9 ⟨rfl, s10⟩
      have S := S.trans s10
      have hb_1 := hb_1.sub s10
      refine RL.ev (.pick_t rfl rfl) rfl rfl ?_
      refine RL.ev (.move rfl) rfl rfl ?_
      refine RL.split 26 rfl (fun h11 => ?_) (fun h11 => ?_)
      ·
        refine RL.ev (.move rfl) rfl rfl ?_
        refine RL.ev (.bin rfl rfl rfl) rfl rfl ?_
        refine RL.ev (.move rfl) rfl rfl ?_
        refine RL.split 29 rfl (fun h12 => ?_) (fun h12 => ?_)
        ·
          refine RL.off rfl rfl ?_
          refine RL.off rfl rfl ?_
          refine RL.off rfl rfl ?_
          refine RL.ev (.pick_t rfl rfl) rfl rfl ?_
          refine RL.ev (.pick_t rfl rfl) rfl rfl ?_
          refine RL.ev (.move rfl) rfl rfl ?_
          refine RL.ev (.move rfl) rfl rfl ?_
          refine RL.ev (.bin rfl rfl rfl) rfl rfl ?_
          refine RL.ev (.move rfl) rfl rfl ?_
          refine RL.split 38 rfl (fun h13 => ?_) (fun h13 => ?_)
          ·
            refine RL.off rfl rfl ?_
            refine RL.off rfl rfl ?_
            refine RL.off rfl rfl ?_
            refine RL.ev (.pick_t rfl rfl) rfl rfl ?_
            refine RL.ev (.pick_t rfl rfl) rfl rfl ?_
            refine RL.ev (.assign rfl) rfl rfl ?_
            refine RL.nil (RC.back ?_)
            refine RC.done (rs := [.tmp 2]) (vs := [_]) rfl rfl ⟨rfl, trivial⟩ ?_
            -- end 1
            exact ⟨congrArg Value.bool (by (first | exact (decide_eq_true (by (try simp only [okP, kindP, hasAP, hasBP] at *); omega)).symm | exact (decide_eq_false (by (try simp only [okP, kindP, hasAP, hasBP] at *); omega)).symm | exact decide_eq_decide.2 (by (try simp only [okP, kindP, hasAP, hasBP] at *); omega))), S⟩
          ·
            refine RL.ev (.field0 fo40_3 rfl) rfl rfl ?_
            refine RL.ev (.load1 sh2 rfl (hb_1.cell rfl)) rfl rfl ?_
            refine RL.ev (.bin rfl rfl rfl) rfl rfl ?_
            refine RL.ev (.pick_f rfl rfl) rfl rfl ?_
            refine RL.ev (.pick_t rfl rfl) rfl rfl ?_
            refine RL.ev (.assign rfl) rfl rfl ?_
            refine RL.nil (RC.back ?_)
            refine RC.done (rs := [.tmp 2]) (vs := [_]) rfl rfl ⟨rfl, trivial⟩ ?_
            -- end 2
            exact ⟨congrArg Value.bool (by (first | exact (decide_eq_true (by (try simp only [okP, kindP, hasAP, hasBP] at *); omega)).symm | exact (decide_eq_false (by (try simp only [okP, kindP, hasAP, hasBP] at *); omega)).symm | exact decide_eq_decide.2 (by (try simp only [okP, kindP, hasAP, hasBP] at *); omega))), S⟩
        ·
          refine RL.ev (.field0 fo40_2 rfl) rfl rfl ?_
          refine RL.ev (.load1 sh2 rfl (hb_1.cell rfl)) rfl rfl ?_
          refine RL.ev (.bin rfl rfl rfl) rfl rfl ?_
          refine RL.ev (.pick_f rfl rfl) rfl rfl ?_
          refine RL.ev (.pick_t rfl rfl) rfl rfl ?_
          refine RL.ev (.move rfl) rfl rfl ?_
          refine RL.split 35 rfl (fun h14 => ?_) (fun h14 => ?_)
          ·
            refine RL.ev (.move rfl) rfl rfl ?_
            refine RL.ev (.bin rfl rfl rfl) rfl rfl ?_
            refine RL.ev (.move rfl) rfl rfl ?_
            refine RL.split 38 rfl (fun h15 => ?_) (fun h15 => ?_)
            ·
              refine RL.off rfl rfl ?_
              refine RL.off rfl rfl ?_
              refine RL.off rfl rfl ?_
              refine RL.ev (.pick_t rfl rfl) rfl rfl ?_
              refine RL.ev (.pick_t rfl rfl) rfl rfl ?_
              refine RL.ev (.assign rfl) rfl rfl ?_
              refine RL.nil (RC.back ?_)
              refine RC.done (rs := [.tmp 2]) (vs := [_]) rfl rfl ⟨rfl, trivial⟩ ?_
              -- end 3
              exact ⟨congrArg Value.bool (by (first | exact (decide_eq_true (by (try simp only [okP, kindP, hasAP, hasBP] at *); omega)).symm | exact (decide_eq_false (by (try simp only [okP, kindP, hasAP, hasBP] at *); omega)).symm | exact decide_eq_decide.2 (by (try simp only [okP, kindP, hasAP, hasBP] at *); omega))), S⟩
            ·
              refine RL.ev (.field0 fo40_3 rfl) rfl rfl ?_
              refine RL.ev (.load1 sh2 rfl (hb_1.cell rfl)) rfl rfl ?_
              refine RL.ev (.bin rfl rfl rfl) rfl rfl ?_
              refine RL.ev (.pick_f rfl rfl) rfl rfl ?_
              refine RL.ev (.pick_t rfl rfl) rfl rfl ?_
              refine RL.ev (.assign rfl) rfl rfl ?_
              refine RL.nil (RC.back ?_)
              refine RC.done (rs := [.tmp 2]) (vs := [_]) rfl rfl ⟨rfl, trivial⟩ ?_
              -- end 4
              exact ⟨congrArg Value.bool (by (first | exact (decide_eq_true (by (try simp only [okP, kindP, hasAP, hasBP] at *); omega)).symm | exact (decide_eq_false (by (try simp only [okP, kindP, hasAP, hasBP] at *); omega)).symm | exact decide_eq_decide.2 (by (try simp only [okP, kindP, hasAP, hasBP] at *); omega))), S⟩
          ·
            refine RL.off rfl rfl ?_
            refine RL.off rfl rfl ?_
            refine RL.off rfl rfl ?_
            refine RL.off rfl rfl ?_
            refine RL.off rfl rfl ?_
            refine RL.off rfl rfl ?_
            refine RL.off rfl rfl ?_
            refine RL.ev (.pick_f rfl rfl) rfl rfl ?_
            refine RL.ev (.assign rfl) rfl rfl ?_
            refine RL.nil (RC.back ?_)
            refine RC.done (rs := [.tmp 2]) (vs := [_]) rfl rfl ⟨rfl, trivial⟩ ?_
            -- end 5
            exact ⟨congrArg Value.bool (by (first | exact (decide_eq_true (by (try simp only [okP, kindP, hasAP, hasBP] at *); omega)).symm | exact (decide_eq_false (by (try simp only [okP, kindP, hasAP, hasBP] at *); omega)).symm | exact decide_eq_decide.2 (by (try simp only [okP, kindP, hasAP, hasBP] at *); omega))), S⟩
      ·
        refine RL.off rfl rfl ?_
        refine RL.off rfl rfl ?_
        refine RL.off rfl rfl ?_
        refine RL.off rfl rfl ?_
        refine RL.off rfl rfl ?_
        refine RL.off rfl rfl ?_
        refine RL.off rfl rfl ?_
        refine RL.ev (.pick_f rfl rfl) rfl rfl ?_
        refine RL.ev (.move rfl) rfl rfl ?_
        refine RL.off rfl rfl ?_
        refine RL.off rfl rfl ?_
        refine RL.off rfl rfl ?_
        refine RL.off rfl rfl ?_
        refine RL.off rfl rfl ?_
        refine RL.off rfl rfl ?_
        refine RL.off rfl rfl ?_
        refine RL.ev (.pick_f rfl rfl) rfl rfl ?_
        refine RL.ev (.assign rfl) rfl rfl ?_
        refine RL.nil (RC.back ?_)
        refine RC.done (rs := [.tmp 2]) (vs := [_]) rfl rfl ⟨rfl, trivial⟩ ?_
        -- end 6
        exact ⟨congrArg Value.bool (by (first | exact (decide_eq_true (by (try simp only [okP, kindP, hasAP, hasBP] at *); omega)).symm | exact (decide_eq_false (by (try simp only [okP, kindP, hasAP, hasBP] at *); omega)).symm | exact decide_eq_decide.2 (by (try simp only [okP, kindP, hasAP, hasBP] at *); omega))), S⟩
    ·
      refine RL.off rfl rfl ?_
      refine RL.off rfl rfl ?_
      refine RL.off rfl rfl ?_
      refine RL.ev (.pick_f rfl rfl) rfl rfl ?_
      refine RL.ev (.move rfl) rfl rfl ?_
      refine RL.off rfl rfl ?_
      refine RL.off rfl rfl ?_
      refine RL.off rfl rfl ?_
      refine RL.off rfl rfl ?_
      refine RL.off rfl rfl ?_
      refine RL.off rfl rfl ?_
      refine RL.off rfl rfl ?_
      refine RL.ev (.pick_f rfl rfl) rfl rfl ?_
      refine RL.ev (.move rfl) rfl rfl ?_
      refine RL.off rfl rfl ?_
      refine RL.off rfl rfl ?_
      refine RL.off rfl rfl ?_
      refine RL.off rfl rfl ?_
      refine RL.off rfl rfl ?_
      refine RL.off rfl rfl ?_
      refine RL.off rfl rfl ?_
      refine RL.ev (.pick_f rfl rfl) rfl rfl ?_
      refine RL.ev (.assign rfl) rfl rfl ?_
      refine RL.nil (RC.back ?_)
      refine RC.done (rs := [.tmp 2]) (vs := [_]) rfl rfl ⟨rfl, trivial⟩ ?_
      -- end 7
      exact ⟨congrArg Value.bool (by (first | exact (decide_eq_true (by (try simp only [okP, kindP, hasAP, hasBP] at *); omega)).symm | exact (decide_eq_false (by (try simp only [okP, kindP, hasAP, hasBP] at *); omega)).symm | exact decide_eq_decide.2 (by (try simp only [okP, kindP, hasAP, hasBP] at *); omega))), S⟩
  ·
    have h16 : ¬ kindP o.box o.kind := h5
    refine RL.off rfl rfl ?_
    refine RL.off rfl rfl ?_
    refine RL.off rfl rfl ?_
    refine RL.ev (.pick_f rfl rfl) rfl rfl ?_
    refine RL.ev (.move rfl) rfl rfl ?_
    refine RL.off rfl rfl ?_
    refine RL.off rfl rfl ?_
    refine RL.off rfl rfl ?_
    refine RL.ev (.pick_f rfl rfl) rfl rfl ?_
    refine RL.ev (.move rfl) rfl rfl ?_
    refine RL.off rfl rfl ?_
    refine RL.off rfl rfl ?_
    refine RL.off rfl rfl ?_
    refine RL.off rfl rfl ?_
    refine RL.off rfl rfl ?_
    refine RL.off rfl rfl ?_
    refine RL.off rfl rfl ?_
    refine RL.ev (.pick_f rfl rfl) rfl rfl ?_
    refine RL.ev (.move rfl) rfl rfl ?_
    refine RL.off rfl rfl ?_
    refine RL.off rfl rfl ?_
    refine RL.off rfl rfl ?_
    refine RL.off rfl rfl ?_
    refine RL.off rfl rfl ?_
    refine RL.off rfl rfl ?_
    refine RL.off rfl rfl ?_
    refine RL.ev (.pick_f rfl rfl) rfl rfl ?_
    refine RL.ev (.assign rfl) rfl rfl ?_
    refine RL.nil (RC.back ?_)
    refine RC.done (rs := [.tmp 2]) (vs := [_]) rfl rfl ⟨rfl, trivial⟩ ?_
    -- end 8
    exact ⟨congrArg Value.bool (by (first | exact (decide_eq_true (by (try simp only [okP, kindP, hasAP, hasBP] at *); omega)).symm | exact (decide_eq_false (by (try simp only [okP, kindP, hasAP, hasBP] at *); omega)).symm | exact decide_eq_decide.2 (by (try simp only [okP, kindP, hasAP, hasBP] at *); omega))), S⟩
end Go.Proofs.Ytlhnnleaiinjaaa
set_option linter.unusedVariables false
set_option linter.unusedSimpArgs false
namespace Go.Proofs.Ytlhnnleaiinjaaa
open Go Go.XL
noncomputable def pB (p : Prop) : Bool := @decide p (Classical.propDecidable p)
theorem pB_iff {p : Prop} : pB p = true ↔ p := @decide_eq_true_iff p (Classical.propDecidable p)
theorem pB_yes {p : Prop} (h : p) : pB p = true := pB_iff.2 h
theorem pB_no {p : Prop} (h : ¬ p) : pB p = false := by rw [Bool.eq_false_iff]; exact fun e => h (pB_iff.1 e)
theorem pB_congr {p q : Prop} (h : p ↔ q) : pB p = pB q := by rw [Bool.eq_iff_iff, pB_iff, pB_iff]; exact h
def cmpI (a b : Int) : Int := if a < b then -1 else if b < a then 1 else 0
def cmpIt (x y : It) : Int := if cmpI x.k y.k = 0 then cmpI x.v y.v else cmpI x.k y.k
def lessP (x y : It) : Prop := x.k < y.k ∨ x.k = y.k ∧ x.v < y.v
instance (x y : It) : Decidable (lessP x y) := by unfold lessP; infer_instance
theorem cmpI_lt {a b : Int} (h : a < b) : cmpI a b = -1 := if_pos h
theorem cmpI_gt {a b : Int} (h : b < a) : cmpI a b = 1 := by rw [cmpI, if_neg (by omega), if_pos h]
theorem cmpI_eq {a b : Int} (h : a = b) : cmpI a b = 0 := by rw [cmpI, if_neg (by omega), if_neg (by omega)]
theorem cmpI_cases (a b : Int) : (a < b ∧ cmpI a b = -1) ∨ (b < a ∧ cmpI a b = 1) ∨ (a = b ∧ cmpI a b = 0) := by
  rcases Int.lt_trichotomy a b with h | h | h
  · exact .inl ⟨h, cmpI_lt h⟩
  · exact .inr (.inr ⟨h, cmpI_eq h⟩)
  · exact .inr (.inl ⟨h, cmpI_gt h⟩)
theorem cmpIt_cases (x y : It) : (lessP x y ∧ cmpIt x y = -1) ∨ (lessP y x ∧ cmpIt x y = 1) ∨ (x = y ∧ cmpIt x y = 0) := by
  unfold lessP cmpIt
  rcases cmpI_cases x.k y.k with ⟨h, e⟩ | ⟨h, e⟩ | ⟨h, e⟩ <;> rw [e]
  · exact .inl ⟨.inl h, rfl⟩
  · exact .inr (.inl ⟨.inl h, rfl⟩)
  · rw [if_pos rfl]
    rcases cmpI_cases x.v y.v with ⟨h2, e2⟩ | ⟨h2, e2⟩ | ⟨h2, e2⟩ <;> rw [e2]
    · exact .inl ⟨.inr ⟨h, h2⟩, rfl⟩
    · exact .inr (.inl ⟨.inr ⟨h.symm, h2⟩, rfl⟩)
    · refine .inr (.inr ⟨?_, rfl⟩); cases x; cases y; simp_all
theorem c_isNaN (a : Int) (w : World) : FC Try.prog 72 [.int .i64 a] w (Val (.bool false) w) := by
  refine FC.intro Try.func72 rfl Try.ntmps72 rfl ?_
  have S := Sub.refl w
  refine RC.seq ?_
  refine RC.region rfl ?_
  refine RL.ev (.assign rfl) rfl rfl ?_
  refine RL.nil (RC.back ?_)
  refine RC.seq ?_
  refine RC.region rfl ?_
  refine RL.ev (.move rfl) rfl rfl ?_
  refine RL.ev (.move rfl) rfl rfl ?_
  refine RL.ev (.as (v' := .bool false) (.bin rfl rfl rfl) (congrArg Value.bool (decide_eq_false (fun h => h rfl)))) rfl rfl ?_
  refine RL.ev (.assign rfl) rfl rfl ?_
  refine RL.nil (RC.back ?_)
  refine RC.done (rs := [.tmp 2]) (vs := [_]) rfl rfl ⟨rfl, trivial⟩ ?_
  -- end 1
  exact ⟨rfl, S⟩
theorem c_compare (a b : Int) (w : World) : FC Try.prog 62 [.int .i64 a, .int .i64 b] w (Val (.int .i64 (cmpI a b)) w) := by
  refine FC.intro Try.func62 rfl Try.ntmps62 rfl ?_
  have S := Sub.refl w
  refine RC.seq ?_
  refine RC.region rfl ?_
  refine RL.ev (.assign rfl) rfl rfl ?_
  refine RL.nil (RC.back ?_)
  refine RC.seq ?_
  refine RC.region rfl ?_
  refine RL.ev (.move rfl) rfl rfl ?_
  refine RL.call rfl ok72 (c_isNaN a w) rfl rfl ?_
  rintro _ w1 ⟨rfl, s2⟩
  have S := S.trans s2
  refine RL.ev (.assign rfl) rfl rfl ?_
  refine RL.nil (RC.back ?_)
  refine RC.seq ?_
  refine RC.region rfl ?_
  refine RL.ev (.move rfl) rfl rfl ?_
  refine RL.call rfl ok72 (c_isNaN b w1) rfl rfl ?_
  rintro _ w3 ⟨rfl, s4⟩
  have S := S.trans s4
  refine RL.ev (.assign rfl) rfl rfl ?_
  refine RL.nil (RC.back ?_)
  refine RC.seq ?_
  refine RC.seq ?_
  refine RC.region rfl ?_
  refine RL.ev (.move rfl) rfl rfl ?_
  refine RL.nil (RC.back ?_)
  refine RC.cond_f rfl ?_
  refine RC.skip (RC.back ?_)
  refine RC.seq ?_
  refine RC.seq ?_
  refine RC.region rfl ?_
  refine RL.ev (.move rfl) rfl rfl ?_
  refine RL.nil (RC.back ?_)
  refine RC.cond_f rfl ?_
  refine RC.skip (RC.back ?_)
  refine RC.seq ?_
  refine RC.seq ?_
  refine RC.region rfl ?_
  refine RL.ev (.move rfl) rfl rfl ?_
  refine RL.ev (.move rfl) rfl rfl ?_
  refine RL.ev (.bin rfl rfl rfl) rfl rfl ?_
  refine RL.nil (RC.back ?_)
  refine RC.cond_dec rfl (fun h5 => ?_) (fun h5 => ?_)
  ·
    have h16 : a < b := h5
    refine RC.seq ?_
    refine RC.region rfl ?_
    refine RL.ev (.assign rfl) rfl rfl ?_
    refine RL.nil (RC.back ?_)
    refine RC.done (rs := [.tmp 4]) (vs := [_]) rfl rfl ⟨rfl, trivial⟩ ?_
    -- end 1
    rw [cmpI_lt h16]
    exact ⟨rfl, S⟩
  ·
    have h16 : ¬ a < b := h5
    refine RC.skip (RC.back ?_)
    refine RC.seq ?_
    refine RC.seq ?_
    refine RC.region rfl ?_
    refine RL.ev (.move rfl) rfl rfl ?_
    refine RL.ev (.move rfl) rfl rfl ?_
    refine RL.ev (.bin rfl rfl rfl) rfl rfl ?_
    refine RL.nil (RC.back ?_)
    refine RC.cond_dec rfl (fun h6 => ?_) (fun h6 => ?_)
    ·
      have h19 : b < a := h6
      refine RC.seq ?_
      refine RC.region rfl ?_
      refine RL.ev (.assign rfl) rfl rfl ?_
      refine RL.nil (RC.back ?_)
      refine RC.done (rs := [.tmp 4]) (vs := [_]) rfl rfl ⟨rfl, trivial⟩ ?_
      -- end 2
      rw [cmpI_gt h19]
      exact ⟨rfl, S⟩
    ·
      have h19 : ¬ b < a := h6
      refine RC.skip (RC.back ?_)
      refine RC.seq ?_
      refine RC.region rfl ?_
      refine RL.ev (.assign rfl) rfl rfl ?_
      refine RL.nil (RC.back ?_)
      refine RC.done (rs := [.tmp 4]) (vs := [_]) rfl rfl ⟨rfl, trivial⟩ ?_
      -- end 3
      rw [cmpI_eq (by omega)]
      exact ⟨rfl, S⟩
theorem c_or (x y : Int) (a : Option Addr) (c m : Nat) (hm : m = 2) (w : World) (hl : Sl w a 1 ([x, y].map fun x => [i6 x])) : FC Try.prog 61 [.slice a m c] w (Val (.int .i64 (if x = 0 then y else x)) w) := by
  subst hm
  refine FC.intro Try.func61 rfl Try.ntmps61 rfl ?_
  have S := Sub.refl w
  refine RC.seq ?_
  refine RC.region rfl ?_
  refine RL.ev (.assign rfl) rfl rfl ?_
  refine RL.nil (RC.back ?_)
  refine RC.seq ?_
  refine RC.region rfl ?_
  refine RL.ev (.assign rfl) rfl rfl ?_
  refine RL.nil (RC.back ?_)
  refine RC.seq ?_
  refine RC.seq ?_
  refine RC.region rfl ?_
  refine RL.ev (.move rfl) rfl rfl ?_
  refine RL.ev (.len sl23 rfl) rfl rfl ?_
  refine RL.ev (.move rfl) rfl rfl ?_
  refine RL.nil (RC.back ?_)
  refine RC.block ?_
  refine RC.loop (α := Nat) (fun i => [(3, .int .i64 0), (6, .slice a 2 c), (7, .int .i64 2), (8, .int .i64 (i : Int))]) (fun i w1 => (i ≤ 2 ∧ (1 ≤ i → x = 0) ∧ (2 ≤ i → y = 0)) ∧ Sub w w1) (fun i => 2 - i) 0 (keep_of (by repeat (first | exact trivial | refine And.intro rfl ?_))) (⟨⟨by omega, fun (h : 1 ≤ 0) => absurd h (by decide), fun (h : 2 ≤ 0) => absurd h (by decide)⟩, S⟩) (fun i w1 hJ => ?_)
  obtain ⟨⟨hi, hp1, hp2⟩, S⟩ := hJ
  refine RC.seq ?_
  refine RC.region rfl ?_
  refine RL.ev (.bin rfl rfl rfl) rfl rfl ?_
  refine RL.nil (RC.back ?_)
  refine RC.seq ?_
  refine RC.cond_dec rfl (fun h2 => ?_) (fun h2 => ?_)
  ·
    obtain ⟨z, hz⟩ := getSome (l := [x, y]) (i := i) (by show i < 2; omega)
    have hzz : (i = 0 ∧ z = x) ∨ (i = 1 ∧ z = y) := (by have hi2 : i = 0 ∨ i = 1 := (by omega); rcases hi2 with rfl | rfl; exact .inl ⟨rfl, by simpa using hz.symm⟩; exact .inr ⟨rfl, by simpa using hz.symm⟩)
    refine RC.skip (RC.back ?_)
    refine RC.seq ?_
    refine RC.block ?_
    refine RC.seq ?_
    refine RC.region rfl ?_
    refine RL.ev (.indexS sl23 rfl rfl (by omega) (hl.is (i := 0) (by simp only [List.length_map, List.length_cons, List.length_nil]; omega))) rfl rfl ?_
    refine RL.ev (.load1 sh3 rfl ((hl.sub S).one (enc := i6) (i := i) hz)) rfl rfl ?_
    refine RL.ev (.assign rfl) rfl rfl ?_
    refine RL.nil (RC.back ?_)
    refine RC.seq ?_
    refine RC.region rfl ?_
    refine RL.ev (.move rfl) rfl rfl ?_
    refine RL.ev (.move rfl) rfl rfl ?_
    refine RL.ev (.bin rfl rfl rfl) rfl rfl ?_
    refine RL.nil (RC.back ?_)
    refine RC.cond_dec rfl (fun h3 => ?_) (fun h3 => ?_)
    ·
      have h14 : ¬ z = 0 := h3
      refine RC.seq ?_
      refine RC.region rfl ?_
      refine RL.ev (.move rfl) rfl rfl ?_
      refine RL.ev (.assign rfl) rfl rfl ?_
      refine RL.nil (RC.back ?_)
      refine RC.done (rs := [.tmp 2]) (vs := [_]) rfl rfl ⟨rfl, trivial⟩ ?_
      -- end 1
      rcases hzz with ⟨e, rfl⟩ | ⟨e, rfl⟩
      rw [if_neg h14]
      exact ⟨rfl, S⟩
      rw [if_pos (hp1 (by omega))]
      exact ⟨rfl, S⟩
    ·
      have h14 : z = 0 := Decidable.not_not.1 h3
      refine RC.skip (RC.back ?_)
      refine RC.region rfl ?_
      refine RL.ev (.as (.bin rfl rfl rfl) (wi64 (y := ((i + 1 : Nat) : Int)) (by omega) (by omega))) rfl rfl ?_
      refine RL.ev (.move rfl) rfl rfl ?_
      exact RL.nil (fun a ka => ⟨i + 1, ⟨⟨by omega, fun _ => by rcases hzz with ⟨e, e2⟩ | ⟨e, e2⟩; rw [← e2]; exact h14; exact hp1 (by omega), fun _ => by rcases hzz with ⟨e, e2⟩ | ⟨e, e2⟩; omega; rw [← e2]; exact h14⟩, S⟩, by omega, ka.keep (keep_of (by repeat (first | exact trivial | refine And.intro rfl ?_)))⟩)
  ·
    have hx0 := hp1 (by omega)
    have hy0 := hp2 (by omega)
    refine RC.exit rfl (RC.back ?_)
    refine RC.seq ?_
    refine RC.region rfl ?_
    refine RL.ev (.move rfl) rfl rfl ?_
    refine RL.ev (.assign rfl) rfl rfl ?_
    refine RL.nil (RC.back ?_)
    refine RC.done (rs := [.tmp 2]) (vs := [_]) rfl rfl ⟨rfl, trivial⟩ ?_
    -- end 2
    rw [if_pos hx0, hy0]
    exact ⟨rfl, S⟩
theorem c_less (x y : It) (w : World) : FC Try.prog 56 [x.val, y.val] w (Val (.int .i64 (cmpIt x y)) w) := by
  refine FC.intro Try.func56 rfl Try.ntmps56 rfl ?_
  have S := Sub.refl w
  refine RC.seq ?_
  refine RC.region rfl ?_
  refine RL.box rfl rfl rfl (fun b_2 w_2 e_2 z_2 hb_2 s_2 => ?_)
  have ge_2 := S.le e_2
  have S := S.trans s_2
  have hb_2 : Has w_2 b_2 ([.int .i64 x.k, .int .i64 x.v]) _ := hb_2
  refine RL.box rfl rfl rfl (fun b_3 w_3 e_3 z_3 hb_3 s_3 => ?_)
  have ge_3 := S.le e_3
  have n_2__3 := hb_2.ne e_3
  have S := S.trans s_3
  have hb_2 := hb_2.sub s_3
  have hb_3 : Has w_3 b_3 ([.int .i64 y.k, .int .i64 y.v]) _ := hb_3
  refine RL.ev (.assign rfl) rfl rfl ?_
  refine RL.nil (RC.back ?_)
  refine RC.seq ?_
  refine RC.drawD (fun k => False) [] w_3.heap.size 13 rfl rfl mxo (fun w1 s2 => ?_)
  have hNN : ∀ k, ((False) ∨ w_3.heap.size ≤ k) → w.heap.size ≤ k := fun k e => e.elim (fun e => e.elim) (fun e => Nat.le_trans S.size e)
  have ent_S := S.size
  have hN0 : ∀ k, w_3.heap.size ≤ k → w.heap.size ≤ k := fun k e => Nat.le_trans S.size e
  have ltD_b_2 := hb_2.lt
  have ltD_b_3 := hb_3.lt
  have szD := Nat.le_refl w_3.heap.size
  have S := S.trans s2
  have hb_2 := hb_2.sub s2
  have hb_3 := hb_3.sub s2
  have szD := Nat.le_trans szD s2.size
  refine RD.take 0 rfl (by kernel_rfl) (by kernel_rfl) (by kernel_rfl) (fun w' s' => .field0 fo82_0 rfl) rfl rfl ?_
  refine RD.take 1 rfl (by kernel_rfl) (by kernel_rfl) (by kernel_rfl) (fun w' s' => .load1 sh2 rfl ((hb_2.step s' (fun e => e.elim (fun e => e.elim) (fun e => Nat.not_le.2 ltD_b_2 e))).cell rfl)) rfl rfl ?_
  refine RD.take 2 rfl (by kernel_rfl) (by kernel_rfl) (by kernel_rfl) (fun w' s' => .field0 fo82_0 rfl) rfl rfl ?_
  refine RD.take 3 rfl (by kernel_rfl) (by kernel_rfl) (by kernel_rfl) (fun w' s' => .load1 sh2 rfl ((hb_3.step s' (fun e => e.elim (fun e => e.elim) (fun e => Nat.not_le.2 ltD_b_3 e))).cell rfl)) rfl rfl ?_
  refine RD.take 5 rfl (by kernel_rfl) (by kernel_rfl) (by kernel_rfl) (fun w' s' => .field0 fo82_1 rfl) rfl rfl ?_
  refine RD.take 6 rfl (by kernel_rfl) (by kernel_rfl) (by kernel_rfl) (fun w' s' => .load1 sh2 rfl ((hb_2.step s' (fun e => e.elim (fun e => e.elim) (fun e => Nat.not_le.2 ltD_b_2 e))).cell rfl)) rfl rfl ?_
  refine RD.take 7 rfl (by kernel_rfl) (by kernel_rfl) (by kernel_rfl) (fun w' s' => .field0 fo82_1 rfl) rfl rfl ?_
  refine RD.take 8 rfl (by kernel_rfl) (by kernel_rfl) (by kernel_rfl) (fun w' s' => .load1 sh2 rfl ((hb_3.step s' (fun e => e.elim (fun e => e.elim) (fun e => Nat.not_le.2 ltD_b_3 e))).cell rfl)) rfl rfl ?_
  refine RD.all [4] (by kernel_rfl) rfl (RDs.cons rfl ?_ (RDs.nil))
  refine RL.call rfl ok62 (c_compare x.k y.k w1) rfl rfl ?_
  rintro _ w3 ⟨rfl, s4⟩
  have S := S.trans s4
  have hb_2 := hb_2.sub s4
  have hb_3 := hb_3.sub s4
  have szD := Nat.le_trans szD s4.size
  refine RD.back s4.agr ?_
  refine RD.all [9] (by kernel_rfl) rfl (RDs.cons rfl ?_ (RDs.nil))
  refine RL.call rfl ok62 (c_compare x.v y.v w3) rfl rfl ?_
  rintro _ w5 ⟨rfl, s6⟩
  have S := S.trans s6
  have hb_2 := hb_2.sub s6
  have hb_3 := hb_3.sub s6
  have szD := Nat.le_trans szD s6.size
  refine RD.back s6.agr ?_
  refine RD.all [10] (by kernel_rfl) rfl (RDs.cons rfl ?_ (RDs.nil))
  refine RL.buildSliceN (vs := [_, _]) sl23 _ ze3 rfl ⟨rfl, rfl, trivial⟩ rfl rfl rfl rfl rfl rfl (fun b_15 w_15 e_15 z_15 hb_15 s_15 => ?_)
  have fr_b_15 : w_3.heap.size ≤ b_15 := by rw [e_15]; exact szD
  have ge_15 := S.le e_15
  have n_2__15 := hb_2.ne e_15
  have n_3__15 := hb_3.ne e_15
  have S := S.trans s_15
  have hb_2 := hb_2.sub s_15
  have hb_3 := hb_3.sub s_15
  have szD := Nat.le_trans szD s_15.size
  refine RD.back s_15.agr ?_
  refine RD.all [11] (by kernel_rfl) rfl (RDs.cons rfl ?_ (RDs.nil))
  refine RL.call rfl ok61 (c_or (cmpI x.k y.k) (cmpI x.v y.v) _ _ _ rfl w_15 (Has.sl1 (enc := i6) (l := [cmpI x.k y.k, cmpI x.v y.v]) hb_15)) rfl rfl ?_
  rintro _ w7 ⟨rfl, s8⟩
  have S := S.trans s8
  have hb_2 := hb_2.sub s8
  have hb_3 := hb_3.sub s8
  have szD := Nat.le_trans szD s8.size
  have hb_15 := hb_15.sub s8
  refine RD.back s8.agr ?_
  refine RD.take 12 rfl (by kernel_rfl) (by kernel_rfl) (by kernel_rfl) (fun w' s' => .assign rfl) rfl rfl ?_
  refine RD.done (by kernel_rfl) (RC.back ?_)
  refine RC.done (rs := [.tmp 4]) (vs := [_]) rfl rfl ⟨rfl, trivial⟩ ?_
  -- end 1
  exact ⟨rfl, S⟩
theorem c_up (x y : It) (w : World) : FC Try.prog 50 [x.val, y.val] w (Val (.bool (decide (x.k < y.k))) w) := by
  refine FC.intro Try.func50 rfl Try.ntmps50 rfl ?_
  have S := Sub.refl w
  refine RC.seq ?_
  refine RC.region rfl ?_
  refine RL.box rfl rfl rfl (fun b_2 w_2 e_2 z_2 hb_2 s_2 => ?_)
  have ge_2 := S.le e_2
  have S := S.trans s_2
  have hb_2 : Has w_2 b_2 ([.int .i64 x.k, .int .i64 x.v]) _ := hb_2
  refine RL.box rfl rfl rfl (fun b_3 w_3 e_3 z_3 hb_3 s_3 => ?_)
  have ge_3 := S.le e_3
  have n_2__3 := hb_2.ne e_3
  have S := S.trans s_3
  have hb_2 := hb_2.sub s_3
  have hb_3 : Has w_3 b_3 ([.int .i64 y.k, .int .i64 y.v]) _ := hb_3
  refine RL.ev (.assign rfl) rfl rfl ?_
  refine RL.nil (RC.back ?_)
  refine RC.seq ?_
  refine RC.region rfl ?_
  refine RL.ev (.field0 fo82_0 rfl) rfl rfl ?_
  refine RL.ev (.load1 sh2 rfl (hb_2.cell rfl)) rfl rfl ?_
  refine RL.ev (.field0 fo82_0 rfl) rfl rfl ?_
  refine RL.ev (.load1 sh2 rfl (hb_3.cell rfl)) rfl rfl ?_
  refine RL.ev (.bin rfl rfl rfl) rfl rfl ?_
  refine RL.ev (.assign rfl) rfl rfl ?_
  refine RL.nil (RC.back ?_)
  refine RC.done (rs := [.tmp 4]) (vs := [_]) rfl rfl ⟨rfl, trivial⟩ ?_
  -- end 1
  exact ⟨rfl, S⟩
theorem c_le3 (x y : It) (w : World) : FC Try.prog 55 [x.val, y.val] w (Val (.bool (decide (¬ lessP y x))) w) := by
  have hc := cmpIt_cases x y
  refine FC.intro Try.func55 rfl Try.ntmps55 rfl ?_
  have S := Sub.refl w
  refine RC.seq ?_
  refine RC.region rfl ?_
  refine RL.box rfl rfl rfl (fun b_2 w_2 e_2 z_2 hb_2 s_2 => ?_)
  have ge_2 := S.le e_2
  have S := S.trans s_2
  have hb_2 : Has w_2 b_2 ([.int .i64 x.k, .int .i64 x.v]) _ := hb_2
  refine RL.box rfl rfl rfl (fun b_3 w_3 e_3 z_3 hb_3 s_3 => ?_)
  have ge_3 := S.le e_3
  have n_2__3 := hb_2.ne e_3
  have S := S.trans s_3
  have hb_2 := hb_2.sub s_3
  have hb_3 : Has w_3 b_3 ([.int .i64 y.k, .int .i64 y.v]) _ := hb_3
  refine RL.ev (.assign rfl) rfl rfl ?_
  refine RL.nil (RC.back ?_)
  refine RC.seq ?_
  refine RC.region rfl ?_
  refine RL.ev (.loadR ([.int .i64 x.k, .int .i64 x.v]) sh82 rfl hb_2.row rfl) rfl rfl ?_
  refine RL.ev (.loadR ([.int .i64 y.k, .int .i64 y.v]) sh82 rfl hb_3.row rfl) rfl rfl ?_
  refine RL.call rfl ok56 (c_less x y w_3) rfl rfl ?_
  rintro _ w1 ⟨rfl, s2⟩
  have S := S.trans s2
  have hb_2 := hb_2.sub s2
  have hb_3 := hb_3.sub s2
  refine RL.ev (.bin rfl rfl rfl) rfl rfl ?_
  refine RL.ev (.assign rfl) rfl rfl ?_
  refine RL.nil (RC.back ?_)
  refine RC.done (rs := [.tmp 4]) (vs := [_]) rfl rfl ⟨rfl, trivial⟩ ?_
  -- end 1
  exact ⟨congrArg Value.bool (decide_eq_decide.2 (by unfold lessP at *; rcases hc with h | h | h <;> (try obtain ⟨rfl, h⟩ := h) <;> omega)), S⟩
theorem c_refLess (x y : It) (w : World) : FC Try.prog 49 [x.val, y.val] w (Val (.bool (decide (lessP x y))) w) := by
  refine FC.intro Try.func49 rfl Try.ntmps49 rfl ?_
  have S := Sub.refl w
  refine RC.seq ?_
  refine RC.region rfl ?_
  refine RL.box rfl rfl rfl (fun b_2 w_2 e_2 z_2 hb_2 s_2 => ?_)
  have ge_2 := S.le e_2
  have S := S.trans s_2
  have hb_2 : Has w_2 b_2 ([.int .i64 x.k, .int .i64 x.v]) _ := hb_2
  refine RL.box rfl rfl rfl (fun b_3 w_3 e_3 z_3 hb_3 s_3 => ?_)
  have ge_3 := S.le e_3
  have n_2__3 := hb_2.ne e_3
  have S := S.trans s_3
  have hb_2 := hb_2.sub s_3
  have hb_3 : Has w_3 b_3 ([.int .i64 y.k, .int .i64 y.v]) _ := hb_3
  refine RL.ev (.assign rfl) rfl rfl ?_
  refine RL.nil (RC.back ?_)
  refine RC.seq ?_
  refine RC.seq ?_
  refine RC.region rfl ?_
  refine RL.ev (.field0 fo82_0 rfl) rfl rfl ?_
  refine RL.ev (.load1 sh2 rfl (hb_2.cell rfl)) rfl rfl ?_
  refine RL.ev (.field0 fo82_0 rfl) rfl rfl ?_
  refine RL.ev (.load1 sh2 rfl (hb_3.cell rfl)) rfl rfl ?_
  refine RL.ev (.bin rfl rfl rfl) rfl rfl ?_
  refine RL.nil (RC.back ?_)
  refine RC.cond_dec rfl (fun h1 => ?_) (fun h1 => ?_)
  ·
    have h9 : ¬ x.k = y.k := h1
    refine RC.seq ?_
    refine RC.region rfl ?_
    refine RL.ev (.field0 fo82_0 rfl) rfl rfl ?_
    refine RL.ev (.load1 sh2 rfl (hb_2.cell rfl)) rfl rfl ?_
    refine RL.ev (.field0 fo82_0 rfl) rfl rfl ?_
    refine RL.ev (.load1 sh2 rfl (hb_3.cell rfl)) rfl rfl ?_
    refine RL.ev (.bin rfl rfl rfl) rfl rfl ?_
    refine RL.ev (.assign rfl) rfl rfl ?_
    refine RL.nil (RC.back ?_)
    refine RC.done (rs := [.tmp 4]) (vs := [_]) rfl rfl ⟨rfl, trivial⟩ ?_
    -- end 1
    exact ⟨congrArg Value.bool (decide_eq_decide.2 (by unfold lessP; omega)), S⟩
  ·
    have h9 : x.k = y.k := Decidable.not_not.1 h1
    refine RC.skip (RC.back ?_)
    refine RC.seq ?_
    refine RC.region rfl ?_
    refine RL.ev (.field0 fo82_1 rfl) rfl rfl ?_
    refine RL.ev (.load1 sh2 rfl (hb_2.cell rfl)) rfl rfl ?_
    refine RL.ev (.field0 fo82_1 rfl) rfl rfl ?_
    refine RL.ev (.load1 sh2 rfl (hb_3.cell rfl)) rfl rfl ?_
    refine RL.ev (.bin rfl rfl rfl) rfl rfl ?_
    refine RL.ev (.assign rfl) rfl rfl ?_
    refine RL.nil (RC.back ?_)
    refine RC.done (rs := [.tmp 4]) (vs := [_]) rfl rfl ⟨rfl, trivial⟩ ?_
    -- end 2
    exact ⟨congrArg Value.bool (decide_eq_decide.2 (by unfold lessP; omega)), S⟩
def inK (x : It) : Prop := -1073741824 ≤ x.k ∧ x.k ≤ 1073741824
def keysP (nx : It → It → Bool) (l : List It) : Prop := (∀ x ∈ l, inK x) ∧ (∀ i x y, l[i]? = some x → l[i + 1]? = some y → nx x y = true) ∧ l.length ≤ 200
theorem c_keys (g : FuncId) (hg : calleeOK Try.prog g = true) (nx : It → It → Bool) (hn : ∀ x y w', FC Try.prog g [x.val, y.val] w' (Val (.bool (nx x y)) w')) (l : List It) (a : Option Addr) (c m : Nat) (hm : m = l.length) (w : World) (hl : Sl w a 2 (l.map It.cells)) (hb : l.length ≤ 1000000) :
    FC Try.prog 53 [.slice a m c, .func (.func g) #[] #[]] w (Val (.bool (pB (keysP nx l))) w) := by
  subst hm
  refine FC.intro Try.func53 rfl Try.ntmps53 rfl ?_
  have S := Sub.refl w
  refine RC.seq ?_
  refine RC.region rfl ?_
  refine RL.ev (.assign rfl) rfl rfl ?_
  refine RL.nil (RC.back ?_)
  refine RC.seq ?_
  refine RC.seq ?_
  refine RC.region rfl ?_
  refine RL.ev (.move rfl) rfl rfl ?_
  refine RL.ev (.len sl35 rfl) rfl rfl ?_
  refine RL.ev (.move rfl) rfl rfl ?_
  refine RL.nil (RC.back ?_)
  refine RC.block ?_
  refine RC.loop (α := Nat) (fun i => [(0, .slice a l.length c), (1, .func (.func g) #[] #[]), (7, .slice a l.length c), (8, .int .i64 (l.length : Int)), (9, .int .i64 (i : Int))]) (fun i w1 => (i ≤ l.length ∧ (∀ x ∈ l.take i, inK x) ∧ ∀ j x y, j + 1 < i → l[j]? = some x → l[j + 1]? = some y → nx x y = true) ∧ Sub w w1) (fun i => l.length - i) 0 (keep_of (by repeat (first | exact trivial | refine And.intro rfl ?_))) (⟨⟨Nat.zero_le _, by simp, fun j x y h => absurd h (by omega)⟩, S⟩) (fun i w1 hJ => ?_)
  obtain ⟨⟨hi, hp1, hp2⟩, S⟩ := hJ
  refine RC.seq ?_
  refine RC.region rfl ?_
  refine RL.ev (.bin rfl rfl rfl) rfl rfl ?_
  refine RL.nil (RC.back ?_)
  refine RC.seq ?_
  refine RC.cond_dec rfl (fun h2 => ?_) (fun h2 => ?_)
  ·
    obtain ⟨x, hx⟩ := getSome (l := l) (i := i) (by omega)
    have hxm := List.mem_of_getElem? hx
    refine RC.skip (RC.back ?_)
    refine RC.seq ?_
    refine RC.block ?_
    refine RC.seq ?_
    refine RC.region rfl ?_
    refine RL.ev (.move rfl) rfl rfl ?_
    refine RL.ev (.indexS sl35 rfl rfl (by omega) (hl.is (i := 0) (by simp only [List.length_map, List.length_cons, List.length_nil]; omega))) rfl rfl ?_
    refine RL.ev (.loadR ([.int .i64 x.k, .int .i64 x.v]) sh82 rfl ((hl.sub S).rowAt (enc := It.cells) (i := i) hx) rfl) rfl rfl ?_
    refine RL.alloc ze82 rfl rfl (fun b_6 w_6 e_6 z_6 hb_6 s_6 => ?_)
    have ge_6 := S.le e_6
    have S := S.trans s_6
    refine RL.ev (.assign rfl) rfl rfl ?_
    refine RL.store sh82 rfl rfl rfl hb_6 (by exact Nat.le_of_ble_eq_true rfl) (by rfl) rfl (fun w3 z3 hb_6 a3 => ?_)
    have S := S.upd a3 ge_6
    have hb_6 : Has w3 b_6 ([.int .i64 x.k, .int .i64 x.v]) _ := hb_6.now (by kernel_rfl)
    refine RL.nil (RC.back ?_)
    refine RC.seq ?_
    refine RC.draw rfl mxo (by kernel_rfl) ?_
    refine RQ.ev (.field0 fo82_0 rfl) rfl rfl ?_
    refine RQ.ev (.load1 sh2 rfl (hb_6.cell rfl)) rfl rfl ?_
    refine RQ.ev (.bin rfl rfl rfl) rfl rfl ?_
    refine RQ.ev (.move rfl) rfl rfl ?_
    refine RQ.split 17 rfl (fun h4 => ?_) (fun h4 => ?_)
    ·
      have hno : ¬ keysP nx l := (fun h => by have := (h.1 x hxm).1; omega)
      refine RQ.off rfl rfl ?_
      refine RQ.off rfl rfl ?_
      refine RQ.off rfl rfl ?_
      refine RQ.ev (.pick_t rfl rfl) rfl rfl ?_
      refine RQ.ev (.move rfl) rfl rfl ?_
      refine RQ.off rfl rfl ?_
      refine RQ.off rfl rfl ?_
      refine RQ.off rfl rfl ?_
      refine RQ.off rfl rfl ?_
      refine RQ.off rfl rfl ?_
      refine RQ.off rfl rfl ?_
      refine RQ.off rfl rfl ?_
      refine RQ.off rfl rfl ?_
      refine RQ.off rfl rfl ?_
      refine RQ.off rfl rfl ?_
      refine RQ.off rfl rfl ?_
      refine RQ.off rfl rfl ?_
      refine RQ.off rfl rfl ?_
      refine RQ.ev (.pick_t rfl rfl) rfl rfl ?_
      refine RQ.nil (fun w5 s6 => RC.back ?_)
      have S := S.trans s6
      have hb_6 := hb_6.sub s6
      refine RC.cond_t rfl ?_
      refine RC.seq ?_
      refine RC.region rfl ?_
      refine RL.ev (.assign rfl) rfl rfl ?_
      refine RL.nil (RC.back ?_)
      refine RC.done (rs := [.tmp 4]) (vs := [_]) rfl rfl ⟨rfl, trivial⟩ ?_
      -- end 1
      rw [pB_no hno]
      exact ⟨rfl, S⟩
    ·
      have h17 : -1073741824 ≤ x.k := (by omega)
      refine RQ.ev (.field0 fo82_0 rfl) rfl rfl ?_
      refine RQ.ev (.load1 sh2 rfl (hb_6.cell rfl)) rfl rfl ?_
      refine RQ.ev (.bin rfl rfl rfl) rfl rfl ?_
      refine RQ.ev (.pick_f rfl rfl) rfl rfl ?_
      refine RQ.ev (.move rfl) rfl rfl ?_
      refine RQ.split 22 rfl (fun h7 => ?_) (fun h7 => ?_)
      ·
        have hno : ¬ keysP nx l := (fun h => by have := (h.1 x hxm).2; omega)
        refine RQ.off rfl rfl ?_
        refine RQ.off rfl rfl ?_
        refine RQ.off rfl rfl ?_
        refine RQ.off rfl rfl ?_
        refine RQ.off rfl rfl ?_
        refine RQ.off rfl rfl ?_
        refine RQ.off rfl rfl ?_
        refine RQ.off rfl rfl ?_
        refine RQ.off rfl rfl ?_
        refine RQ.off rfl rfl ?_
        refine RQ.off rfl rfl ?_
        refine RQ.off rfl rfl ?_
        refine RQ.off rfl rfl ?_
        refine RQ.ev (.pick_t rfl rfl) rfl rfl ?_
        refine RQ.nil (fun w8 s9 => RC.back ?_)
        have S := S.trans s9
        have hb_6 := hb_6.sub s9
        refine RC.cond_t rfl ?_
        refine RC.seq ?_
        refine RC.region rfl ?_
        refine RL.ev (.assign rfl) rfl rfl ?_
        refine RL.nil (RC.back ?_)
        refine RC.done (rs := [.tmp 4]) (vs := [_]) rfl rfl ⟨rfl, trivial⟩ ?_
        -- end 2
        rw [pB_no hno]
        exact ⟨rfl, S⟩
      ·
        have h22 : x.k ≤ 1073741824 := (by omega)
        refine RQ.ev (.move rfl) rfl rfl ?_
        refine RQ.ev (.bin rfl rfl rfl) rfl rfl ?_
        refine RQ.ev (.move rfl) rfl rfl ?_
        refine RQ.split 25 rfl (fun h10 => ?_) (fun h10 => ?_)
        ·
          obtain ⟨y, hy⟩ := getSome (l := l) (i := i - 1) (by omega)
          have hxi : l[i - 1 + 1]? = some x := (by rw [show i - 1 + 1 = i by omega]; exact hx)
          refine RQ.ev (.move rfl) rfl rfl ?_
          refine RQ.ev (.move rfl) rfl rfl ?_
          refine RQ.ev (.move rfl) rfl rfl ?_
          refine RQ.ev (.as (.bin rfl rfl rfl) (wi64 (y := ((i - 1 : Nat) : Int)) (by omega) (by omega))) rfl rfl ?_
          refine RQ.ev (.indexS sl35 rfl rfl (by omega) (hl.is (i := 0) (by simp only [List.length_map, List.length_cons, List.length_nil]; omega))) rfl rfl ?_
          refine RQ.ev (.loadR ([.int .i64 y.k, .int .i64 y.v]) sh82 rfl ((hl.sub S).rowAt (enc := It.cells) (i := i - 1) hy) rfl) rfl rfl ?_
          refine RQ.ev (.loadR ([.int .i64 x.k, .int .i64 x.v]) sh82 rfl hb_6.row rfl) rfl rfl ?_
          refine RQ.callv rfl rfl (us := []) (cs := []) hg (fun w' s' => hn y x w') rfl rfl ?_
          refine RQ.ev (.not rfl) rfl rfl ?_
          refine RQ.ev (.pick_t rfl rfl) rfl rfl ?_
          refine RQ.ev (.pick_f rfl rfl) rfl rfl ?_
          refine RQ.nil (fun w11 s12 => RC.back ?_)
          have S := S.trans s12
          have hb_6 := hb_6.sub s12
          refine RC.cond rfl (fun h13 => ?_) (fun h13 => ?_)
          ·
            have hno : ¬ keysP nx l := (fun h => by have q := h.2.1 _ y x hy hxi; have q2 := h13; simp [q] at q2)
            refine RC.seq ?_
            refine RC.region rfl ?_
            refine RL.ev (.assign rfl) rfl rfl ?_
            refine RL.nil (RC.back ?_)
            refine RC.done (rs := [.tmp 4]) (vs := [_]) rfl rfl ⟨rfl, trivial⟩ ?_
            -- end 3
            rw [pB_no hno]
            exact ⟨rfl, S⟩
          ·
            have hyx : nx y x = true := (by simpa using h13)
            refine RC.skip (RC.back ?_)
            refine RC.region rfl ?_
            refine RL.ev (.as (.bin rfl rfl rfl) (wi64 (y := ((i + 1 : Nat) : Int)) (by omega) (by omega))) rfl rfl ?_
            refine RL.ev (.move rfl) rfl rfl ?_
            exact RL.nil (fun a ka => ⟨i + 1, ⟨⟨by omega, fun z hz => by rw [List.take_add_one, hx] at hz; rcases List.mem_append.1 hz with hz | hz; exact hp1 z hz; have e : z = x := (by simpa using hz); rw [e]; exact ⟨h17, h22⟩, fun j z u hj hz hu => by rcases Nat.lt_or_ge (j + 1) i with q | q; exact hp2 j z u q hz hu; obtain rfl : j = i - 1 := (by omega); rw [hy] at hz; rw [hxi] at hu; cases hz; cases hu; exact hyx⟩, S⟩, by omega, ka.keep (keep_of (by repeat (first | exact trivial | refine And.intro rfl ?_)))⟩)
        ·
          have h25 : i = 0 := (by omega)
          refine RQ.off rfl rfl ?_
          refine RQ.off rfl rfl ?_
          refine RQ.off rfl rfl ?_
          refine RQ.off rfl rfl ?_
          refine RQ.off rfl rfl ?_
          refine RQ.off rfl rfl ?_
          refine RQ.off rfl rfl ?_
          refine RQ.off rfl rfl ?_
          refine RQ.off rfl rfl ?_
          refine RQ.ev (.pick_f rfl rfl) rfl rfl ?_
          refine RQ.ev (.pick_f rfl rfl) rfl rfl ?_
          refine RQ.nil (fun w14 s15 => RC.back ?_)
          have S := S.trans s15
          have hb_6 := hb_6.sub s15
          refine RC.cond_f rfl ?_
          refine RC.skip (RC.back ?_)
          refine RC.region rfl ?_
          refine RL.ev (.as (.bin rfl rfl rfl) (wi64 (y := ((i + 1 : Nat) : Int)) (by omega) (by omega))) rfl rfl ?_
          refine RL.ev (.move rfl) rfl rfl ?_
          exact RL.nil (fun a ka => ⟨i + 1, ⟨⟨by omega, fun z hz => by rw [List.take_add_one, hx] at hz; rcases List.mem_append.1 hz with hz | hz; exact hp1 z hz; have e : z = x := (by simpa using hz); rw [e]; exact ⟨h17, h22⟩, fun j z u hj hz hu => absurd hj (by omega)⟩, S⟩, by omega, ka.keep (keep_of (by repeat (first | exact trivial | refine And.intro rfl ?_)))⟩)
  ·
    obtain rfl : i = l.length := (by omega)
    rw [List.take_length] at hp1
    refine RC.exit rfl (RC.back ?_)
    refine RC.seq ?_
    refine RC.region rfl ?_
    refine RL.ev (.move rfl) rfl rfl ?_
    refine RL.ev (.len sl35 rfl) rfl rfl ?_
    refine RL.ev (.bin rfl rfl rfl) rfl rfl ?_
    refine RL.ev (.assign rfl) rfl rfl ?_
    refine RL.nil (RC.back ?_)
    refine RC.done (rs := [.tmp 4]) (vs := [_]) rfl rfl ⟨rfl, trivial⟩ ?_
    -- end 4
    exact ⟨congrArg Value.bool (by rw [Bool.eq_iff_iff, decide_eq_true_iff, pB_iff]; exact ⟨fun h => ⟨hp1, fun j x y h1 h2 => hp2 j x y (lt_of_get h2) h1 h2, by omega⟩, fun h => by have := h.2.2; omega⟩), S⟩
def crowdL (l : List It) (key : Int) : Nat := (l.filter fun x => decide (hashOf x.k = hashOf key)).length
theorem crowdL_step {l : List It} {i : Nat} {x : It} (h : l[i]? = some x) (key : Int) : crowdL (l.take (i + 1)) key = crowdL (l.take i) key + if hashOf x.k = hashOf key then 1 else 0 := by
  unfold crowdL
  rw [filter_take h, List.length_append]
  by_cases q : hashOf x.k = hashOf key
  · rw [if_pos (by simpa using q), if_pos q]; rfl
  · rw [if_neg (by simpa using q), if_neg q]; rfl
theorem crowdL_le (l : List It) (key : Int) : crowdL l key ≤ l.length := List.length_filter_le _ _
theorem c_crowd (l : List It) (a : Option Addr) (c m : Nat) (hm : m = l.length) (key : Int) (w : World) (hl : Sl w a 2 (l.map It.cells)) (hb : l.length ≤ 1000000) :
    FC Try.prog 52 [.slice a m c, .int .i64 key] w (Val (.int .i64 (crowdL l key : Int)) w) := by
  subst hm
  refine FC.intro Try.func52 rfl Try.ntmps52 rfl ?_
  have S := Sub.refl w
  refine RC.seq ?_
  refine RC.region rfl ?_
  refine RL.ev (.assign rfl) rfl rfl ?_
  refine RL.nil (RC.back ?_)
  refine RC.seq ?_
  refine RC.region rfl ?_
  refine RL.ev (.assign rfl) rfl rfl ?_
  refine RL.nil (RC.back ?_)
  refine RC.seq ?_
  refine RC.seq ?_
  refine RC.region rfl ?_
  refine RL.ev (.move rfl) rfl rfl ?_
  refine RL.ev (.len sl35 rfl) rfl rfl ?_
  refine RL.ev (.move rfl) rfl rfl ?_
  refine RL.nil (RC.back ?_)
  refine RC.block ?_
  refine RC.loop (α := Nat × Nat) (fun x => [(1, .int .i64 key), (5, .int .i64 (x.2 : Int)), (8, .slice a l.length c), (9, .int .i64 (l.length : Int)), (10, .int .i64 (x.1 : Int))]) (fun x w1 => (x.1 ≤ l.length ∧ x.2 = crowdL (l.take x.1) key) ∧ Sub w w1) (fun x => l.length - x.1) (0, 0) (keep_of (by repeat (first | exact trivial | refine And.intro rfl ?_))) (⟨⟨Nat.zero_le _, rfl⟩, S⟩) (fun x w1 hJ => ?_)
  obtain ⟨i, n⟩ := x; obtain ⟨⟨hi, hn⟩, S⟩ := hJ; simp only [] at hi hn
  refine RC.seq ?_
  refine RC.region rfl ?_
  refine RL.ev (.bin rfl rfl rfl) rfl rfl ?_
  refine RL.nil (RC.back ?_)
  refine RC.seq ?_
  refine RC.cond_dec rfl (fun h2 => ?_) (fun h2 => ?_)
  ·
    obtain ⟨x, hx⟩ := getSome (l := l) (i := i) (by omega)
    have hst := crowdL_step hx key
    have hcl := crowdL_le (l.take i) key
    rw [List.length_take] at hcl
    refine RC.skip (RC.back ?_)
    refine RC.seq ?_
    refine RC.block ?_
    refine RC.seq ?_
    refine RC.region rfl ?_
    refine RL.ev (.indexS sl35 rfl rfl (by omega) (hl.is (i := 0) (by simp only [List.length_map, List.length_cons, List.length_nil]; omega))) rfl rfl ?_
    refine RL.ev (.loadR ([.int .i64 x.k, .int .i64 x.v]) sh82 rfl ((hl.sub S).rowAt (enc := It.cells) (i := i) hx) rfl) rfl rfl ?_
    refine RL.alloc ze82 rfl rfl (fun b_7 w_7 e_7 z_7 hb_7 s_7 => ?_)
    have ge_7 := S.le e_7
    have S := S.trans s_7
    refine RL.store sh82 rfl rfl rfl hb_7 (by exact Nat.le_of_ble_eq_true rfl) (by rfl) rfl (fun w3 z3 hb_7 a3 => ?_)
    have S := S.upd a3 ge_7
    have hb_7 : Has w3 b_7 ([.int .i64 x.k, .int .i64 x.v]) _ := hb_7.now (by kernel_rfl)
    refine RL.nil (RC.back ?_)
    refine RC.seq ?_
    refine RC.region rfl ?_
    refine RL.ev (.field0 fo82_0 rfl) rfl rfl ?_
    refine RL.ev (.load1 sh2 rfl (hb_7.cell rfl)) rfl rfl ?_
    refine RL.call rfl ok59 (c_hash x.k w3) rfl rfl ?_
    rintro _ w4 ⟨rfl, s5⟩
    have S := S.trans s5
    have hb_7 := hb_7.sub s5
    refine RL.ev (.move rfl) rfl rfl ?_
    refine RL.call rfl ok59 (c_hash key w4) rfl rfl ?_
    rintro _ w6 ⟨rfl, s7⟩
    have S := S.trans s7
    have hb_7 := hb_7.sub s7
    refine RL.ev (.bin rfl rfl rfl) rfl rfl ?_
    refine RL.nil (RC.back ?_)
    refine RC.cond_dec rfl (fun h8 => ?_) (fun h8 => ?_)
    ·
      have h19 : hashOf x.k = hashOf key := (by have := h8; omega)
      rw [if_pos h19] at hst
      refine RC.region rfl ?_
      refine RL.ev (.move rfl) rfl rfl ?_
      refine RL.ev (.as (.bin rfl rfl rfl) (wi64 (y := ((n + 1 : Nat) : Int)) (by omega) (by omega))) rfl rfl ?_
      refine RL.ev (.assign rfl) rfl rfl ?_
      refine RL.nil (RC.back ?_)
      refine RC.region rfl ?_
      refine RL.ev (.as (.bin rfl rfl rfl) (wi64 (y := ((i + 1 : Nat) : Int)) (by omega) (by omega))) rfl rfl ?_
      refine RL.ev (.move rfl) rfl rfl ?_
      exact RL.nil (fun a ka => ⟨(i + 1, n + 1), ⟨⟨by omega, by show n + 1 = crowdL (l.take (i + 1)) key; omega⟩, S⟩, by omega, ka.keep (keep_of (by repeat (first | exact trivial | refine And.intro rfl ?_)))⟩)
    ·
      have h19 : ¬ hashOf x.k = hashOf key := (by have := h8; omega)
      rw [if_neg h19] at hst
      refine RC.skip (RC.back ?_)
      refine RC.region rfl ?_
      refine RL.ev (.as (.bin rfl rfl rfl) (wi64 (y := ((i + 1 : Nat) : Int)) (by omega) (by omega))) rfl rfl ?_
      refine RL.ev (.move rfl) rfl rfl ?_
      exact RL.nil (fun a ka => ⟨(i + 1, n), ⟨⟨by omega, by show n = crowdL (l.take (i + 1)) key; omega⟩, S⟩, by omega, ka.keep (keep_of (by repeat (first | exact trivial | refine And.intro rfl ?_)))⟩)
  ·
    obtain rfl : i = l.length := (by omega)
    rw [List.take_length] at hn
    refine RC.exit rfl (RC.back ?_)
    refine RC.seq ?_
    refine RC.region rfl ?_
    refine RL.ev (.move rfl) rfl rfl ?_
    refine RL.ev (.assign rfl) rfl rfl ?_
    refine RL.nil (RC.back ?_)
    refine RC.done (rs := [.tmp 4]) (vs := [_]) rfl rfl ⟨rfl, trivial⟩ ?_
    -- end 1
    rw [← hn]
    exact ⟨rfl, S⟩
end Go.Proofs.Ytlhnnleaiinjaaa
set_option linter.unusedVariables false
set_option linter.unusedSimpArgs false
namespace Go.Proofs.Ytlhnnleaiinjaaa
open Go Go.XL
theorem c_clone (l : List It) (a : Option Addr) (c m : Nat) (hm : m = l.length) (w : World) (hl : Sl w a 2 (l.map It.cells)) (hb : l.length ≤ 1000000) :
    FC Try.prog 77 [.slice a m c] w (fun u w' => ∃ a' c', u = .slice a' l.length c' ∧ Ows w.heap.size w' 82 2 (.slice a' l.length c') (l.map It.cells) ∧ Sub w w') := by
  subst hm
  refine FC.intro Try.func77 rfl Try.ntmps77 rfl ?_
  have S := Sub.refl w
  refine RC.seq ?_
  refine RC.region rfl ?_
  refine RL.ev (.assign rfl) rfl rfl ?_
  refine RL.nil (RC.back ?_)
  refine RC.seq ?_
  refine RC.seq ?_
  refine RC.region rfl ?_
  refine RL.ev (.move rfl) rfl rfl ?_
  refine RL.ev (.eqNil sl35 rfl) rfl rfl ?_
  refine RL.nil (RC.back ?_)
  refine RC.cond rfl (fun h1 => ?_) (fun h1 => ?_)
  ·
    have h4 := h1
    have hnil : l = [] := (by refine Classical.byContradiction fun e => ?_; have q := hl.some (by simpa using e); cases a <;> simp at h4 q)
    refine RC.seq ?_
    refine RC.region rfl ?_
    refine RL.ev (.assign rfl) rfl rfl ?_
    refine RL.nil (RC.back ?_)
    refine RC.done (rs := [.tmp 2]) (vs := [_]) rfl rfl ⟨rfl, trivial⟩ ?_
    -- end 1
    subst hnil
    exact ⟨none, 0, rfl, Ows.nil _ _ _ _, S⟩
  ·
    have h4 := h1
    refine RC.skip (RC.back ?_)
    refine RC.seq ?_
    refine RC.region rfl ?_
    refine RL.buildSlice0 sl35 rfl rfl (fun b_5 w_5 e_5 z_5 hb_5 s_5 => ?_)
    have ge_5 := S.le e_5
    have S := S.trans s_5
    refine RL.ev (.move rfl) rfl rfl ?_
    have sz_7 := S.size
    have ltb_5_7 := hb_5.lt
    refine RL.append2 (base := w.heap.size) (rows := []) (news := l.map It.cells) sl35 ze82 rfl rfl rfl rfl (.inl (Ows.lit0 hb_5 (by omega))) (hl.sub S) (by (try simp only [List.length_map]); first | done | rfl) (by intro r hr; obtain ⟨x, _, rfl⟩ := List.mem_map.1 hr; rfl) (by rw [List.all_eq_true]; intro r hr; obtain ⟨x, _, rfl⟩ := List.mem_map.1 hr; rfl) (by (try simp only [List.length_map, List.length_nil, List.length_append, List.length_cons]); omega) (by (try simp only [List.length_map, List.length_nil, List.length_append, List.length_cons]); omega) (by omega) rfl rfl (fun v_7 w_7 hc_7 ho_7 ag_7 ob_7 => ?_)
    have o7 := ho_7 (.inr (Ows.lit0 hb_5 (by omega)))
    have S := S.agrN ag_7 (fun k e => Nat.le_trans (by omega) e.2)
    obtain ⟨a_7, c_7, rfl, k_7⟩ := o7.form
    refine RL.ev (.assign rfl) rfl rfl ?_
    refine RL.nil (RC.back ?_)
    refine RC.done (rs := [.tmp 2]) (vs := [_]) rfl rfl ⟨rfl, trivial⟩ ?_
    -- end 2
    rw [List.nil_append, List.length_map] at o7
    exact ⟨_, _, by rw [List.nil_append, List.length_map]; rfl, o7, S⟩
theorem it_plain (l : List It) : (l.map It.cells).all (fun r => r.all plainV) = true := by rw [List.all_eq_true]; intro r hr; obtain ⟨x, _, rfl⟩ := List.mem_map.1 hr; rfl
theorem wh_sl {w : World} {g : Nat} {e : TypeId} {l : List It} {ex : List (List Value)} (h : Has w g (l.map It.cells ++ ex).flatten e) : Sl w (some ⟨g, 0, none⟩) 2 (l.map It.cells) := Has.sl (extra := ex.flatten) (by rw [← List.flatten_append]; exact h) it_rows
theorem c_delete (l : List It) (g i : Nat) (ex : List (List Value)) (hex : ∀ r ∈ ex, r.length = 2) (hcap : l.length + ex.length ≤ 9223372036854775807) (hi : i < l.length) (w : World) (hg : Has w g (l.map It.cells ++ ex).flatten 82) :
    FC Try.prog 76 [.slice (some ⟨g, 0, none⟩) l.length (l.length + ex.length), .int .i64 (i : Int), .int .i64 ((i + 1 : Nat) : Int)] w (fun u w' => u = .slice (some ⟨g, 0, none⟩) (l.length - 1) (l.length + ex.length) ∧ (∃ R : List (List Value), Has w' g R.flatten 82 ∧ (∀ r ∈ R, r.length = 2) ∧ R.take (l.length - 1) = (l.take i ++ l.drop (i + 1)).map It.cells) ∧ Agr (· = g) w w') := by
  have hR : ∀ r ∈ l.map It.cells ++ ex, r.length = 2 := fun r hr => (List.mem_append.1 hr).elim (it_rows r) (hex r)
  have hS : Sl w (some ⟨g, 0, none⟩) 2 (l.map It.cells) := Has.sl (extra := ex.flatten) (by rw [← List.flatten_append]; exact hg) it_rows
  have hRl : (l.map It.cells ++ ex).length = l.length + ex.length := by rw [List.length_append, List.length_map]
  have G : Agr (· = g) w w := Agr.refl _ _
  have hD : ((l.drop (i + 1)).map It.cells).length = l.length - (i + 1) := by rw [List.length_map, List.length_drop]
  have e1 : i + (l.length - (i + 1)) = l.length - 1 := by omega
  have hB1 := blit_take (R := l.map It.cells ++ ex) (l := (l.drop (i + 1)).map It.cells) (o := i) (by omega)
  have hBl := blit_len (R := l.map It.cells ++ ex) (l := (l.drop (i + 1)).map It.cells) (o := i) (by omega)
  have hBr := blit_rows (s := 2) (R := l.map It.cells ++ ex) (l := (l.drop (i + 1)).map It.cells) (o := i) hR it_rows
  rw [hD, e1] at hB1
  have hTk : (l.map It.cells ++ ex).take i = (l.take i).map It.cells := by rw [List.take_append_of_le_length (by rw [List.length_map]; omega), List.map_take]
  refine FC.intro Try.func76 rfl Try.ntmps76 rfl ?_
  refine RC.seq ?_
  refine RC.region rfl ?_
  refine RL.ev (.assign rfl) rfl rfl ?_
  refine RL.nil (RC.back ?_)
  refine RC.seq ?_
  refine RC.region rfl ?_
  refine RL.ev (.move rfl) rfl rfl ?_
  refine RL.ev (.move rfl) rfl rfl ?_
  refine RL.ev (.move rfl) rfl rfl ?_
  refine RL.ev (.move rfl) rfl rfl ?_
  refine RL.ev (.len sl35 rfl) rfl rfl ?_
  refine RL.ev (.sliceLHM sl35 rfl rfl rfl rfl (by omega)) rfl rfl ?_
  refine RL.nil (RC.back ?_)
  refine RC.seq ?_
  refine RC.seq ?_
  refine RC.region rfl ?_
  refine RL.ev (.move rfl) rfl rfl ?_
  refine RL.ev (.move rfl) rfl rfl ?_
  refine RL.ev (.bin rfl rfl rfl) rfl rfl ?_
  refine RL.nil (RC.back ?_)
  refine RC.cond_dec rfl (fun h1 => ?_) (fun h1 => ?_)
  ·
    exact absurd h1 (by omega)
  ·
    refine RC.skip (RC.back ?_)
    refine RC.seq ?_
    refine RC.region rfl ?_
    refine RL.ev (.move rfl) rfl rfl ?_
    refine RL.ev (.len sl35 rfl) rfl rfl ?_
    refine RL.ev (.assign rfl) rfl rfl ?_
    refine RL.nil (RC.back ?_)
    refine RC.seq ?_
    refine RC.drawD (fun k => k = g) [6] w.heap.size 8 rfl rfl mxo (fun w2 s3 => ?_)
    have ltD_g := hg.lt
    have szD := Nat.le_refl w.heap.size
    have hg := hg.sub s3
    have G := G.trans s3.agr
    have szD := Nat.le_trans szD s3.size
    refine RD.take 0 rfl (by kernel_rfl) (by kernel_rfl) (by kernel_rfl) (fun w' s' => .move rfl) rfl rfl ?_
    refine RD.take 1 rfl (by kernel_rfl) (by kernel_rfl) (by kernel_rfl) (fun w' s' => .move rfl) rfl rfl ?_
    refine RD.take 2 rfl (by kernel_rfl) (by kernel_rfl) (by kernel_rfl) (fun w' s' => .sliceHi sl35 rfl rfl (by omega)) rfl rfl ?_
    refine RD.take 3 rfl (by kernel_rfl) (by kernel_rfl) (by kernel_rfl) (fun w' s' => .move rfl) rfl rfl ?_
    refine RD.take 4 rfl (by kernel_rfl) (by kernel_rfl) (by kernel_rfl) (fun w' s' => .move rfl) rfl rfl ?_
    refine RD.take 5 rfl (by kernel_rfl) (by kernel_rfl) (by kernel_rfl) (fun w' s' => .sliceLo sl35 rfl rfl (by omega)) rfl rfl ?_
    refine RD.all [6] (by kernel_rfl) rfl (RDs.cons rfl ?_ (RDs.nil))
    refine RL.appendB (R := l.map It.cells ++ ex) (l := (l.drop (i + 1)).map It.cells) (o := i) (k := l.length - (i + 1)) (c := l.length + ex.length) sl35 rfl rfl rfl hg hR (by omega) (by omega) (slDropM (wh_sl hg) (i + 1) (by omega)) hD.symm it_rows (it_plain _) rfl rfl (fun w4 z26 hg a26 => ?_)
    rw [e1]
    have G := G.trans a26
    have szD := Nat.le_trans szD a26.size
    refine RD.backW rfl (a26.mono fun k _ e => .inl e) ?_
    refine RD.take 7 rfl (by kernel_rfl) (by kernel_rfl) (by kernel_rfl) (fun w' s' => .assign rfl) rfl rfl ?_
    refine RD.done (by kernel_rfl) (RC.back ?_)
    refine RC.seq ?_
    refine RC.region rfl ?_
    refine RL.ev (.move rfl) rfl rfl ?_
    refine RL.ev (.move rfl) rfl rfl ?_
    refine RL.ev (.len sl35 rfl) rfl rfl ?_
    refine RL.ev (.move rfl) rfl rfl ?_
    refine RL.ev (.as (v' := .slice (some ⟨g, (l.length - 1) * 2, none⟩) 1 (ex.length + 1)) (.sliceLH sl35 rfl rfl rfl (by omega)) (by rw [sl_at (by omega)]; congr 1 <;> omega)) rfl rfl ?_
    refine RL.clearB (R := blit (l.map It.cells ++ ex) i ((l.drop (i + 1)).map It.cells)) (o := l.length - 1) (m := 1) sl35 ze82 rfl rfl rfl rfl hg hBr (by omega) rfl rfl (fun w5 z31 hg a31 => ?_)
    have G := G.trans a31
    refine RL.nil (RC.back ?_)
    refine RC.seq ?_
    refine RC.region rfl ?_
    refine RL.ev (.move rfl) rfl rfl ?_
    refine RL.ev (.assign rfl) rfl rfl ?_
    refine RL.nil (RC.back ?_)
    refine RC.done (rs := [.tmp 6]) (vs := [_]) rfl rfl ⟨rfl, trivial⟩ ?_
    -- end 1
    refine ⟨rfl, ⟨_, hg, blit_rows hBr (fun r hr => by rw [(List.mem_replicate.1 hr).2]; rfl), ?_⟩, G⟩
    rw [(blit_take (by rw [hBl, List.length_replicate]; omega)).1, hB1.2, hTk, ← List.map_append]
theorem Has.ftW {w : World} {b : Nat} {cs : List Value} {e : TypeId} (h : Has w b cs e) : Ft (· = b) (fun u => Has u b cs e) w := ⟨fun k hk => hk ▸ h.lt, fun u a => h.step a (fun hn => hn rfl)⟩
theorem c_insertEnd (l : List It) (x : It) (base : Nat) (sa : Option Addr) (sc bv : Nat) (w : World) (ov : Ows base w 82 2 (.slice sa l.length sc) (l.map It.cells)) (hbase : base ≤ w.heap.size) (hb : l.length ≤ 1000000) (hv : Sl w (some ⟨bv, 0, none⟩) 2 ([x].map It.cells)) :
    FC Try.prog 79 [.slice sa l.length sc, .int .i64 (l.length : Int), .slice (some ⟨bv, 0, none⟩) 1 1] w (fun u w' => ∃ a' c' M, u = .slice a' (l.length + 1) c' ∧ l.length + 1 ≤ c' ∧ Ft M (fun u => Sl u a' 2 ((l ++ [x]).map It.cells)) w' ∧ (∀ k, M k → base ≤ k) ∧ Agr (fun k => ob (.slice sa l.length sc) = some k) w w') := by
  have G : Agr (fun k => ob (.slice sa l.length sc) = some k) w w := Agr.refl _ _
  refine FC.intro Try.func79 rfl Try.ntmps79 rfl ?_
  refine RC.seq ?_
  refine RC.region rfl ?_
  refine RL.ev (.assign rfl) rfl rfl ?_
  refine RL.nil (RC.back ?_)
  refine RC.seq ?_
  refine RC.region rfl ?_
  refine RL.ev (.move rfl) rfl rfl ?_
  refine RL.ev (.move rfl) rfl rfl ?_
  refine RL.ev (.sliceLo sl35 rfl rfl (by omega)) rfl rfl ?_
  refine RL.nil (RC.back ?_)
  refine RC.seq ?_
  refine RC.region rfl ?_
  refine RL.ev (.move rfl) rfl rfl ?_
  refine RL.ev (.len sl35 rfl) rfl rfl ?_
  refine RL.ev (.assign rfl) rfl rfl ?_
  refine RL.nil (RC.back ?_)
  refine RC.seq ?_
  refine RC.seq ?_
  refine RC.region rfl ?_
  refine RL.ev (.move rfl) rfl rfl ?_
  refine RL.ev (.bin rfl rfl rfl) rfl rfl ?_
  refine RL.nil (RC.back ?_)
  refine RC.cond_dec rfl (fun h1 => ?_) (fun h1 => ?_)
  ·
    exact absurd h1 (by decide)
  ·
    refine RC.skip (RC.back ?_)
    refine RC.seq ?_
    refine RC.region rfl ?_
    refine RL.ev (.move rfl) rfl rfl ?_
    refine RL.ev (.len sl35 rfl) rfl rfl ?_
    refine RL.ev (.assign rfl) rfl rfl ?_
    refine RL.nil (RC.back ?_)
    refine RC.seq ?_
    refine RC.seq ?_
    refine RC.region rfl ?_
    refine RL.ev (.move rfl) rfl rfl ?_
    refine RL.ev (.move rfl) rfl rfl ?_
    refine RL.ev (.bin rfl rfl rfl) rfl rfl ?_
    refine RL.nil (RC.back ?_)
    refine RC.cond_dec rfl (fun h2 => ?_) (fun h2 => ?_)
    ·
      refine RC.seq ?_
      refine RC.region rfl ?_
      refine RL.ev (.move rfl) rfl rfl ?_
      refine RL.ev (.move rfl) rfl rfl ?_
      have szG_25 := G.size
      refine RL.append2 (base := base) (rows := l.map It.cells) (news := [x].map It.cells) sl35 ze82 rfl rfl rfl rfl (.inl ov) hv (by (try simp only [List.length_map]); first | done | rfl) (by intro r hr; obtain ⟨x, _, rfl⟩ := List.mem_map.1 hr; rfl) (by rw [List.all_eq_true]; intro r hr; obtain ⟨x, _, rfl⟩ := List.mem_map.1 hr; rfl) (by (try simp only [List.length_map, List.length_nil, List.length_append, List.length_cons]); omega) (by (try simp only [List.length_map, List.length_nil, List.length_append, List.length_cons]); omega) (by omega) rfl rfl (fun v_25 w_25 hc_25 ho_25 ag_25 ob_25 => ?_)
      have o25 := ho_25 (.inr ov)
      have G := G.trans (ag_25.mono fun k _ e => e.1)
      obtain ⟨a_25, c_25, rfl, k_25⟩ := o25.form
      refine RL.ev (.assign rfl) rfl rfl ?_
      refine RL.nil (RC.back ?_)
      refine RC.done (rs := [.tmp 6]) (vs := [_]) rfl rfl ⟨rfl, trivial⟩ ?_
      -- end 1
      rw [← List.map_append, List.length_map, List.length_append, List.length_singleton] at o25
      exact ⟨_, _, _, by rw [← List.map_append, List.length_map, List.length_append, List.length_singleton]; rfl, by have q := k_25; rw [List.length_append, List.length_map, List.length_map, List.length_singleton] at q; exact q, o25.ft.imp (fun u h => h.sl.1), fun k hk => (o25.ge k hk).1, G⟩
    ·
      exact absurd rfl h2
theorem ins_take {R D : List (List Value)} {x : List Value} {i n : Nat} (hn : n = i + 1 + D.length) (h : n ≤ R.length) : (blit (blit R (i + 1) D) i [x]).take n = R.take i ++ [x] ++ D := by
  have h1 : i + 1 + D.length ≤ R.length := by omega
  have hl := blit_len h1
  subst hn
  unfold blit
  have e1 : (R.take (i + 1) ++ D ++ R.drop (i + 1 + D.length)).take i = R.take i := by
    rw [List.append_assoc, List.take_append_of_le_length (by rw [List.length_take]; omega), List.take_take, Nat.min_eq_left (by omega)]
  have e2 : (R.take (i + 1) ++ D ++ R.drop (i + 1 + D.length)).drop (i + [x].length) = D ++ R.drop (i + 1 + D.length) := by
    have q : (R.take (i + 1)).length = i + 1 := by rw [List.length_take]; omega
    rw [List.append_assoc, List.length_singleton]
    exact List.drop_left' q
  rw [e1, e2, ← List.append_assoc]
  refine (List.take_append_of_le_length ?_).trans (List.take_of_length_le ?_) <;> (simp only [List.length_append, List.length_take, List.length_singleton]; omega)
theorem c_insertMid (l : List It) (x : It) (g i : Nat) (ex : List (List Value)) (bv : Nat) (hex : ∀ r ∈ ex, r.length = 2) (hcap : l.length + ex.length ≤ 9223372036854775807) (hll : l.length ≤ 1000000) (hi : i < l.length) (w : World) (hg : Has w g (l.map It.cells ++ ex).flatten 82) (hv : Has w bv x.cells 82) (hne : bv ≠ g) :
    FC Try.prog 79 [.slice (some ⟨g, 0, none⟩) l.length (l.length + ex.length), .int .i64 (i : Int), .slice (some ⟨bv, 0, none⟩) 1 1] w (fun u w' => ∃ a' c' M, u = .slice a' (l.length + 1) c' ∧ l.length + 1 ≤ c' ∧ Ft M (fun u => Sl u a' 2 ((l.take i ++ x :: l.drop i).map It.cells)) w' ∧ (∀ k, M k → k = g ∨ w.heap.size ≤ k) ∧ Agr (fun k => k = g) w w') := by
  have hR : ∀ r ∈ l.map It.cells ++ ex, r.length = 2 := fun r hr => (List.mem_append.1 hr).elim (it_rows r) (hex r)
  have hRl : (l.map It.cells ++ ex).length = l.length + ex.length := by rw [List.length_append, List.length_map]
  have G : Agr (fun k => k = g) w w := Agr.refl _ _
  have ltg := hg.lt
  have ltv := hv.lt
  have hTk : (l.map It.cells ++ ex).take i = (l.take i).map It.cells := by rw [List.take_append_of_le_length (by rw [List.length_map]; omega), List.map_take]
  have hDl : ((l.drop i).map It.cells).length = l.length - i := by rw [List.length_map, List.length_drop]
  have hm1 : min 1 (l.length + 1 - i) = 1 := by omega
  have hm2 : min (l.length - i) (l.length - i) = l.length - i := by omega
  have hm3 : min (l.length + 1 - i) (l.length - i) = l.length - i := by omega
  have hx2 : ∀ r ∈ [x.cells], r.length = 2 := fun r hr => by rw [List.mem_singleton.1 hr]; rfl
  have hfin : ((l.take i).map It.cells ++ [x.cells] ++ (l.drop i).map It.cells) = (l.take i ++ x :: l.drop i).map It.cells := by simp
  have hDt : ((l.drop i).map It.cells).take (l.length - i) = (l.drop i).map It.cells := List.take_of_length_le (by omega)
  have hRd : (((l.map It.cells ++ ex).drop i).take (l.length + 1 - i)).take (l.length - i) = (l.drop i).map It.cells := by
    rw [List.take_take, Nat.min_eq_left (by omega), List.drop_append_of_le_length (by rw [List.length_map]; omega), List.take_append_of_le_length (by rw [List.length_drop, List.length_map]; omega), ← List.map_drop, hDt]
  refine FC.intro Try.func79 rfl Try.ntmps79 rfl ?_
  refine RC.seq ?_
  refine RC.region rfl ?_
  refine RL.ev (.assign rfl) rfl rfl ?_
  refine RL.nil (RC.back ?_)
  refine RC.seq ?_
  refine RC.region rfl ?_
  refine RL.ev (.move rfl) rfl rfl ?_
  refine RL.ev (.move rfl) rfl rfl ?_
  refine RL.ev (.sliceLo sl35 rfl rfl (by omega)) rfl rfl ?_
  refine RL.nil (RC.back ?_)
  refine RC.seq ?_
  refine RC.region rfl ?_
  refine RL.ev (.move rfl) rfl rfl ?_
  refine RL.ev (.len sl35 rfl) rfl rfl ?_
  refine RL.ev (.assign rfl) rfl rfl ?_
  refine RL.nil (RC.back ?_)
  refine RC.seq ?_
  refine RC.seq ?_
  refine RC.region rfl ?_
  refine RL.ev (.move rfl) rfl rfl ?_
  refine RL.ev (.bin rfl rfl rfl) rfl rfl ?_
  refine RL.nil (RC.back ?_)
  refine RC.cond_dec rfl (fun h1 => ?_) (fun h1 => ?_)
  ·
    exact absurd h1 (by decide)
  ·
    refine RC.skip (RC.back ?_)
    refine RC.seq ?_
    refine RC.region rfl ?_
    refine RL.ev (.move rfl) rfl rfl ?_
    refine RL.ev (.len sl35 rfl) rfl rfl ?_
    refine RL.ev (.assign rfl) rfl rfl ?_
    refine RL.nil (RC.back ?_)
    refine RC.seq ?_
    refine RC.seq ?_
    refine RC.region rfl ?_
    refine RL.ev (.move rfl) rfl rfl ?_
    refine RL.ev (.move rfl) rfl rfl ?_
    refine RL.ev (.bin rfl rfl rfl) rfl rfl ?_
    refine RL.nil (RC.back ?_)
    refine RC.cond_dec rfl (fun h2 => ?_) (fun h2 => ?_)
    ·
      exact absurd h2 (by omega)
    ·
      refine RC.skip (RC.back ?_)
      refine RC.seq ?_
      refine RC.seq ?_
      refine RC.region rfl ?_
      refine RL.ev (.move rfl) rfl rfl ?_
      refine RL.ev (.move rfl) rfl rfl ?_
      refine RL.ev (.as (.bin rfl rfl rfl) (wi64 (y := ((l.length + 1 : Nat) : Int)) (by omega) (by omega))) rfl rfl ?_
      refine RL.ev (.move rfl) rfl rfl ?_
      refine RL.ev (.cap sl35 rfl) rfl rfl ?_
      refine RL.ev (.bin rfl rfl rfl) rfl rfl ?_
      refine RL.nil (RC.back ?_)
      refine RC.cond_dec rfl (fun h3 => ?_) (fun h3 => ?_)
      ·
        have h31 : l.length + ex.length < l.length + 1 := (by omega)
        have nbv_g : bv ≠ g := by exact hne
        refine RC.seq ?_
        refine RC.region rfl ?_
        refine RL.ev (.move rfl) rfl rfl ?_
        refine RL.ev (.move rfl) rfl rfl ?_
        refine RL.ev (.sliceHi sl35 rfl rfl (by omega)) rfl rfl ?_
        refine RL.ev (.move rfl) rfl rfl ?_
        refine RL.ev (.move rfl) rfl rfl ?_
        refine RL.ev (.as (.bin rfl rfl rfl) (wi64 (y := ((l.length + 1 : Nat) : Int)) (by omega) (by omega))) rfl rfl ?_
        refine RL.ev (.move rfl) rfl rfl ?_
        refine RL.ev (.as (.bin rfl rfl rfl) (wi64 (y := ((l.length + 1 - i : Nat) : Int)) (by omega) (by omega))) rfl rfl ?_
        refine RL.appendZ (o := i) (k := l.length + 1 - i) (c := l.length + ex.length) (R := l.map It.cells ++ ex) sl35 Try.underlying3 ze82 rfl rfl rfl rfl hg hR (by omega) (by omega) (by omega) (by omega) (by omega) rfl rfl (fun b_9 w4 cap9 ex9 e_9 hc9 hb_9 hcx9 s9 => ?_)
        have hn9 : i + (l.length + 1 - i) = l.length + 1 := (by omega)
        rw [hn9] at hc9 hcx9 ⊢
        have nb_9_g : b_9 ≠ g := by rw [e_9]; exact fun e => by rw [e] at ltg; omega
        have nb_9_bv : b_9 ≠ bv := by rw [e_9]; exact fun e => by rw [e] at ltv; omega
        have geG_9 := agLe G e_9
        have hg := hg.sub s9
        have hv := hv.sub s9
        have G := G.trans s9.agr
        obtain ⟨R9, hq9⟩ : ∃ R9, R9 = (l.map It.cells ++ ex).take i ++ List.replicate (l.length + 1 - i) [Value.int .i64 0, .int .i64 0] ++ List.replicate ex9 [Value.int .i64 0, .int .i64 0] := ⟨_, rfl⟩
        have hb_9 : Has w4 b_9 R9.flatten _ := (by rw [hq9]; exact hb_9)
        have hR9l : R9.length = l.length + 1 + ex9 := (by rw [hq9, List.length_append, List.length_append, List.length_take, List.length_replicate, List.length_replicate]; omega)
        have hR9t : R9.take i = (l.take i).map It.cells := (by rw [hq9, List.append_assoc, List.take_append_of_le_length (by rw [List.length_take]; omega), List.take_take, Nat.min_self, hTk])
        have hR9 : ∀ r ∈ R9, r.length = 2 := (fun r hr => by rw [hq9] at hr; rcases List.mem_append.1 hr with hr | hr; rcases List.mem_append.1 hr with hr | hr; exact hR r (List.mem_of_mem_take hr); rw [(List.mem_replicate.1 hr).2]; rfl; rw [(List.mem_replicate.1 hr).2]; rfl)
        refine RL.ev (.assign rfl) rfl rfl ?_
        refine RL.nil (RC.back ?_)
        refine RC.seq ?_
        refine RC.region rfl ?_
        refine RL.ev (.move rfl) rfl rfl ?_
        refine RL.ev (.move rfl) rfl rfl ?_
        refine RL.ev (.as (v' := .slice (some ⟨b_9, i * 2, none⟩) (l.length + 1 - i) (cap9 - i)) (.sliceLo sl35 rfl rfl (by omega)) (by rw [sl_at (by omega)]; rfl)) rfl rfl ?_
        refine RL.ev (.move rfl) rfl rfl ?_
        refine RL.copyB (o := i) (k := 1) (m := l.length + 1 - i) (R := R9) (l := [x.cells]) sl35 rfl rfl rfl hb_9 hR9 (by omega) (Has.sl0 (rows := [x.cells]) (by simpa using hv) hx2) rfl hx2 (by rw [hm1]; rfl) rfl rfl (fun w5 z45 hb_9 a45 => ?_)
        have hg := hg.upd a45 nb_9_g.symm
        have hv := hv.upd a45 nb_9_bv.symm
        have G := agNew G a45 geG_9
        rw [hm1] at hb_9
        have hb_9 : Has w5 b_9 (blit R9 i [x.cells]).flatten _ := hb_9
        have hBl := blit_len (R := R9) (l := [x.cells]) (o := i) (by simp; omega)
        have hBr := blit_rows (s := 2) (o := i) hR9 hx2
        refine RL.nil (RC.back ?_)
        refine RC.seq ?_
        refine RC.drawD (fun k => k = b_9) [8] w5.heap.size 9 rfl rfl mxo (fun w6 s7 => ?_)
        have ltD_g := hg.lt
        have ltD_bv := hv.lt
        have ltD_b_9 := hb_9.lt
        have szD := Nat.le_refl w5.heap.size
        have hg := hg.sub s7
        have hv := hv.sub s7
        have G := G.trans s7.agr
        have hb_9 := hb_9.sub s7
        have szD := Nat.le_trans szD s7.size
        refine RD.take 0 rfl (by kernel_rfl) (by kernel_rfl) (by kernel_rfl) (fun w' s' => .move rfl) rfl rfl ?_
        refine RD.take 1 rfl (by kernel_rfl) (by kernel_rfl) (by kernel_rfl) (fun w' s' => .move rfl) rfl rfl ?_
        refine RD.take 2 rfl (by kernel_rfl) (by kernel_rfl) (by kernel_rfl) (fun w' s' => .move rfl) rfl rfl ?_
        refine RD.take 3 rfl (by kernel_rfl) (by kernel_rfl) (by kernel_rfl) (fun w' s' => .as (.bin rfl rfl rfl) (wi64 (y := ((i + 1 : Nat) : Int)) (by omega) (by omega))) rfl rfl ?_
        refine RD.take 4 rfl (by kernel_rfl) (by kernel_rfl) (by kernel_rfl) (fun w' s' => .as (v' := .slice (some ⟨b_9, (i + 1) * 2, none⟩) (l.length - i) (cap9 - (i + 1))) (.sliceLo sl35 rfl rfl (by omega)) (by rw [sl_at (by omega)]; congr 1 <;> omega)) rfl rfl ?_
        refine RD.take 5 rfl (by kernel_rfl) (by kernel_rfl) (by kernel_rfl) (fun w' s' => .move rfl) rfl rfl ?_
        refine RD.take 6 rfl (by kernel_rfl) (by kernel_rfl) (by kernel_rfl) (fun w' s' => .move rfl) rfl rfl ?_
        refine RD.take 7 rfl (by kernel_rfl) (by kernel_rfl) (by kernel_rfl) (fun w' s' => .sliceLo sl35 rfl rfl (by omega)) rfl rfl ?_
        refine RD.all [8] (by kernel_rfl) rfl (RDs.cons rfl ?_ (RDs.nil))
        refine RL.copyB (o := i + 1) (k := l.length - i) (m := l.length - i) (R := blit R9 i [x.cells]) (l := (l.drop i).map It.cells) sl35 rfl rfl rfl hb_9 hBr (by omega) (slDropM (wh_sl hg) i (by omega)) hDl.symm it_rows (by rw [hm2, hDt]; exact it_plain _) rfl rfl (fun w8 z54 hb_9 a54 => ?_)
        have hg := hg.upd a54 nb_9_g.symm
        have hv := hv.upd a54 nb_9_bv.symm
        have G := agNew G a54 geG_9
        have szD := Nat.le_trans szD a54.size
        rw [hm2, hDt] at hb_9
        refine RD.backW rfl (a54.mono fun k _ e => .inl e) ?_
        refine RD.done (by kernel_rfl) (RC.back ?_)
        refine RC.seq ?_
        refine RC.region rfl ?_
        refine RL.ev (.move rfl) rfl rfl ?_
        refine RL.ev (.assign rfl) rfl rfl ?_
        refine RL.nil (RC.back ?_)
        refine RC.done (rs := [.tmp 6]) (vs := [_]) rfl rfl ⟨rfl, trivial⟩ ?_
        -- end 1
        have q := (Has.ftW hb_9).imp (fun u h => Has.slN h (blit_rows hBr it_rows) (i + 1 + (l.length - i)))
        have q2 := (blit_take (R := blit R9 i [x.cells]) (l := (l.drop i).map It.cells) (o := i + 1) (by omega)).2
        rw [hDl] at q2
        have q3 : (blit R9 i [x.cells]).take (i + 1) = _ := (blit_take (R := R9) (l := [x.cells]) (o := i) (by simp; omega)).2
        rw [q2, q3, hR9t, hfin] at q
        exact ⟨_, _, _, rfl, hc9, q, fun k hk => .inr (by rw [hk]; exact geG_9), G⟩
      ·
        have h31 : 1 ≤ ex.length := (by omega)
        have nbv_g : bv ≠ g := by exact hne
        refine RC.skip (RC.back ?_)
        refine RC.seq ?_
        refine RC.region rfl ?_
        refine RL.ev (.move rfl) rfl rfl ?_
        refine RL.ev (.move rfl) rfl rfl ?_
        refine RL.ev (.move rfl) rfl rfl ?_
        refine RL.ev (.as (.bin rfl rfl rfl) (wi64 (y := ((l.length + 1 : Nat) : Int)) (by omega) (by omega))) rfl rfl ?_
        refine RL.ev (.sliceHi sl35 rfl rfl (by omega)) rfl rfl ?_
        refine RL.ev (.assign rfl) rfl rfl ?_
        refine RL.nil (RC.back ?_)
        refine RC.seq ?_
        refine RC.seq ?_
        refine RC.region rfl ?_
        refine RL.ev (.move rfl) rfl rfl ?_
        refine RL.ev (.move rfl) rfl rfl ?_
        refine RL.ev (.move rfl) rfl rfl ?_
        refine RL.ev (.move rfl) rfl rfl ?_
        refine RL.ev (.as (.bin rfl rfl rfl) (wi64 (y := ((i + 1 : Nat) : Int)) (by omega) (by omega))) rfl rfl ?_
        refine RL.ev (.as (v' := .slice (some ⟨g, (i + 1) * 2, none⟩) (l.length - i) (l.length + ex.length - (i + 1))) (.sliceLo sl35 rfl rfl (by omega)) (by rw [sl_at (by omega)]; congr 1 <;> omega)) rfl rfl ?_
        refine RL.overlapsF (tR := 4) (a := ⟨bv, 0, none⟩) (b := ⟨g, (i + 1) * 2, none⟩) rfl rfl rfl (by kernel_rfl) (by kernel_rfl) sl35 rfl rfl hv hg hne (fun e => by have q := congrArg List.length e; rw [flat_len _ hR, hRl] at q; simp at q; omega) rfl rfl ?_
        refine RL.ev (.not rfl) rfl rfl ?_
        refine RL.nil (RC.back ?_)
        refine RC.cond_t rfl ?_
        refine RC.seq ?_
        refine RC.drawD (fun k => k = g) [8] w.heap.size 9 rfl rfl mxo (fun w10 s11 => ?_)
        have ltD_g := hg.lt
        have ltD_bv := hv.lt
        have szD := Nat.le_refl w.heap.size
        have hg := hg.sub s11
        have hv := hv.sub s11
        have G := G.trans s11.agr
        have szD := Nat.le_trans szD s11.size
        refine RD.take 0 rfl (by kernel_rfl) (by kernel_rfl) (by kernel_rfl) (fun w' s' => .move rfl) rfl rfl ?_
        refine RD.take 1 rfl (by kernel_rfl) (by kernel_rfl) (by kernel_rfl) (fun w' s' => .move rfl) rfl rfl ?_
        refine RD.take 2 rfl (by kernel_rfl) (by kernel_rfl) (by kernel_rfl) (fun w' s' => .move rfl) rfl rfl ?_
        refine RD.take 3 rfl (by kernel_rfl) (by kernel_rfl) (by kernel_rfl) (fun w' s' => .as (.bin rfl rfl rfl) (wi64 (y := ((i + 1 : Nat) : Int)) (by omega) (by omega))) rfl rfl ?_
        refine RD.take 4 rfl (by kernel_rfl) (by kernel_rfl) (by kernel_rfl) (fun w' s' => .as (v' := .slice (some ⟨g, (i + 1) * 2, none⟩) (l.length - i) (l.length + ex.length - (i + 1))) (.sliceLo sl35 rfl rfl (by omega)) (by rw [sl_at (by omega)]; congr 1 <;> omega)) rfl rfl ?_
        refine RD.take 5 rfl (by kernel_rfl) (by kernel_rfl) (by kernel_rfl) (fun w' s' => .move rfl) rfl rfl ?_
        refine RD.take 6 rfl (by kernel_rfl) (by kernel_rfl) (by kernel_rfl) (fun w' s' => .move rfl) rfl rfl ?_
        refine RD.take 7 rfl (by kernel_rfl) (by kernel_rfl) (by kernel_rfl) (fun w' s' => .as (v' := .slice (some ⟨g, i * 2, none⟩) (l.length + 1 - i) (l.length + ex.length - i)) (.sliceLo sl35 rfl rfl (by omega)) (by rw [sl_at (by omega)]; rfl)) rfl rfl ?_
        refine RD.all [8] (by kernel_rfl) rfl (RDs.cons rfl ?_ (RDs.nil))
        refine RL.copyB (o := i + 1) (k := l.length + 1 - i) (m := l.length - i) (R := l.map It.cells ++ ex) (l := ((l.map It.cells ++ ex).drop i).take (l.length + 1 - i)) sl35 rfl rfl rfl hg hR (by omega) ((sl_drop_at (hg.sl0 hR) i).take _) (by rw [List.length_take, List.length_drop]; omega) (fun r hr => hR r (List.mem_of_mem_drop (List.mem_of_mem_take hr))) (by rw [hm3, hRd]; exact it_plain _) rfl rfl (fun w12 z77 hg a77 => ?_)
        have hv := hv.upd a77 nbv_g
        have G := G.trans a77
        have szD := Nat.le_trans szD a77.size
        rw [hm3, hRd] at hg
        have hB1l := blit_len (R := l.map It.cells ++ ex) (l := (l.drop i).map It.cells) (o := i + 1) (by omega)
        have hB1r := blit_rows (s := 2) (o := i + 1) hR (it_rows (l := l.drop i))
        refine RD.backW rfl (a77.mono fun k _ e => .inl e) ?_
        refine RD.done (by kernel_rfl) (RC.back ?_)
        refine RC.seq ?_
        refine RC.region rfl ?_
        refine RL.ev (.move rfl) rfl rfl ?_
        refine RL.ev (.move rfl) rfl rfl ?_
        refine RL.ev (.as (v' := .slice (some ⟨g, i * 2, none⟩) (l.length + 1 - i) (l.length + ex.length - i)) (.sliceLo sl35 rfl rfl (by omega)) (by rw [sl_at (by omega)]; rfl)) rfl rfl ?_
        refine RL.ev (.move rfl) rfl rfl ?_
        refine RL.copyB (o := i) (k := 1) (m := l.length + 1 - i) (R := blit (l.map It.cells ++ ex) (i + 1) ((l.drop i).map It.cells)) (l := [x.cells]) sl35 rfl rfl rfl hg hB1r (by omega) (Has.sl0 (rows := [x.cells]) (by simpa using hv) hx2) rfl hx2 (by rw [hm1]; rfl) rfl rfl (fun w13 z82 hg a82 => ?_)
        have hv := hv.upd a82 nbv_g
        have G := G.trans a82
        rw [hm1] at hg
        have hg : Has w13 g (blit (blit (l.map It.cells ++ ex) (i + 1) ((l.drop i).map It.cells)) i [x.cells]).flatten _ := hg
        refine RL.nil (RC.back ?_)
        refine RC.seq ?_
        refine RC.region rfl ?_
        refine RL.ev (.move rfl) rfl rfl ?_
        refine RL.ev (.assign rfl) rfl rfl ?_
        refine RL.nil (RC.back ?_)
        refine RC.done (rs := [.tmp 6]) (vs := [_]) rfl rfl ⟨rfl, trivial⟩ ?_
        -- end 2
        have q := (Has.ftW hg).imp (fun u h => Has.slN h (blit_rows hB1r hx2) (l.length + 1))
        rw [ins_take (by omega) (by omega), hTk, hfin] at q
        exact ⟨_, _, _, rfl, by omega, q, fun k hk => .inl hk, G⟩
theorem c_insert (l : List It) (x : It) (base : Nat) (sa : Option Addr) (sc bv i : Nat) (w : World) (ov : Ows base w 82 2 (.slice sa l.length sc) (l.map It.cells)) (hbase : base ≤ w.heap.size) (hb : sc ≤ 9223372036854775807) (hl : l.length ≤ 1000000) (hi : i ≤ l.length) (hv : Has w bv x.cells 82) (hne : ∀ k, ob (.slice sa l.length sc) = some k → k ≠ bv) :
    FC Try.prog 79 [.slice sa l.length sc, .int .i64 (i : Int), .slice (some ⟨bv, 0, none⟩) 1 1] w (fun u w' => ∃ a' c' M, u = .slice a' (l.length + 1) c' ∧ l.length + 1 ≤ c' ∧ Ft M (fun u => Sl u a' 2 ((l.take i ++ x :: l.drop i).map It.cells)) w' ∧ (∀ k, M k → base ≤ k) ∧ Agr (fun k => ob (.slice sa l.length sc) = some k) w w') := by
  by_cases h : i = l.length
  · subst h
    refine FC.mono (c_insertEnd l x base sa sc bv w ov hbase hl (Has.sl0 (rows := [x].map It.cells) (by simpa using hv) it_rows)) (fun u w' ⟨a', c', M, h1, h0, h2, h4, h3⟩ => ⟨a', c', M, h1, h0, ?_, h4, h3⟩)
    rw [List.take_length, List.drop_length]; exact h2
  · obtain ⟨g, ex, e1, e2, e3, e4, e5⟩ := ov.whole.resolve_left (fun q => by have := congrArg List.length q.2; simp only [List.length_map, List.length_nil] at this; omega)
    rw [List.length_map] at e1
    injection e1 with f1 f2 f3
    subst f1 f3
    refine FC.mono (c_insertMid l x g i ex bv e4 hb hl (by omega) w e3 hv (fun e => hne g rfl e.symm)) (fun u w' ⟨a', c', M, h1, h0, h2, h4, h3⟩ => ⟨a', c', M, h1, h0, h2, fun k hk => (h4 k hk).elim (fun e => by rw [e]; exact e2) (fun e => Nat.le_trans hbase e), h3.mono fun k _ e => by rw [e]; rfl⟩)
theorem half_conv {n : Nat} (h : n ≤ 2000000) : IntKind.i64.wrap ((IntKind.u64.wrap (n : Int)).fdiv (2 ^ min (Int.toNat 1) IntKind.u64.bits)) = ((n / 2 : Nat) : Int) := by
  have e : (2 : Int) ^ min (Int.toNat 1) IntKind.u64.bits = 2 := rfl
  rw [wrap_u64 (by omega), e, Int.fdiv_eq_ediv_of_nonneg _ (by decide), wrap_i64 (by omega)]
  omega
/-- where a row is parted by a test that fails from some place on -/
theorem c_bsf (g : FuncId) (hg : calleeOK Try.prog g = true) (key : Int) (cf : It → Int) (hn : ∀ x w', FC Try.prog g [x.val, .int .i64 key] w' (Val (.int .i64 (cf x)) w')) (l : List It) (hmono : ∀ (i j : Nat) (x y : It), i ≤ j → l[i]? = some x → l[j]? = some y → cf y < 0 → cf x < 0) (a : Option Addr) (c m : Nat) (hm : m = l.length) (w : World) (hl : Sl w a 2 (l.map It.cells)) (hb : l.length ≤ 1000000) :
    FC Try.prog 73 [.slice a m c, .int .i64 key, .func (.func g) #[] #[]] w (fun u w' => Sub w w' ∧ ∃ n : Nat, n ≤ l.length ∧ u = .tuple #[.int .i64 (n : Int), .bool (pB (∃ x, l[n]? = some x ∧ cf x = 0))] ∧ (∀ k x, k < n → l[k]? = some x → cf x < 0) ∧ ∀ k x, n ≤ k → l[k]? = some x → ¬ cf x < 0) := by
  subst hm
  refine FC.intro Try.func73 rfl Try.ntmps73 rfl ?_
  have S := Sub.refl w
  refine RC.seq ?_
  refine RC.region rfl ?_
  refine RL.ev (.assign rfl) rfl rfl ?_
  refine RL.ev (.assign rfl) rfl rfl ?_
  refine RL.nil (RC.back ?_)
  refine RC.seq ?_
  refine RC.region rfl ?_
  refine RL.ev (.move rfl) rfl rfl ?_
  refine RL.ev (.len sl35 rfl) rfl rfl ?_
  refine RL.ev (.assign rfl) rfl rfl ?_
  refine RL.nil (RC.back ?_)
  refine RC.seq ?_
  refine RC.region rfl ?_
  refine RL.ev (.move rfl) rfl rfl ?_
  refine RL.ev (.assign rfl) rfl rfl ?_
  refine RL.ev (.assign rfl) rfl rfl ?_
  refine RL.nil (RC.back ?_)
  refine RC.seq ?_
  refine RC.block ?_
  refine RC.loop (α := Nat × Nat) (fun x => [(0, .slice a l.length c), (1, .int .i64 key), (2, .func (.func g) #[] #[]), (8, .int .i64 (l.length : Int)), (9, .int .i64 (x.1 : Int)), (10, .int .i64 (x.2 : Int))]) (fun x w1 => (x.1 ≤ x.2 ∧ x.2 ≤ l.length ∧ (∀ k z, k < x.1 → l[k]? = some z → cf z < 0) ∧ ∀ k z, x.2 ≤ k → l[k]? = some z → ¬ cf z < 0) ∧ Sub w w1) (fun x => x.2 - x.1) (0, l.length) (keep_of (by repeat (first | exact trivial | refine And.intro rfl ?_))) (⟨⟨Nat.zero_le _, Nat.le_refl _, fun k z h _ => absurd h (Nat.not_lt_zero _), fun k z h e => absurd (lt_of_get e) (Nat.not_lt.2 h)⟩, S⟩) (fun x w1 hJ => ?_)
  obtain ⟨i, j⟩ := x; obtain ⟨⟨hij, hj, hp1, hp2⟩, S⟩ := hJ; simp only [] at hij hj hp1 hp2
  refine RC.seq ?_
  refine RC.seq ?_
  refine RC.region rfl ?_
  refine RL.ev (.move rfl) rfl rfl ?_
  refine RL.ev (.move rfl) rfl rfl ?_
  refine RL.ev (.bin rfl rfl rfl) rfl rfl ?_
  refine RL.nil (RC.back ?_)
  refine RC.cond_dec rfl (fun h2 => ?_) (fun h2 => ?_)
  ·
    have h17 : i < j := (by omega)
    obtain ⟨x, hx⟩ := getSome (l := l) (i := (i + j) / 2) (by omega)
    refine RC.skip (RC.back ?_)
    refine RC.block ?_
    refine RC.seq ?_
    refine RC.region rfl ?_
    refine RL.ev (.move rfl) rfl rfl ?_
    refine RL.ev (.move rfl) rfl rfl ?_
    refine RL.ev (.as (.bin rfl rfl rfl) (wi64 (y := ((i + j : Nat) : Int)) (by omega) (by omega))) rfl rfl ?_
    refine RL.ev (.conv i3 i116 rfl) rfl rfl ?_
    refine RL.ev (.shr rfl rfl (by decide)) rfl rfl ?_
    refine RL.ev (.as (v' := .int .i64 (((i + j) / 2 : Nat) : Int)) (.conv i116 i3 rfl) (by rw [half_conv (by omega)])) rfl rfl ?_
    refine RL.ev (.assign rfl) rfl rfl ?_
    refine RL.nil (RC.back ?_)
    refine RC.seq ?_
    refine RC.region rfl ?_
    refine RL.ev (.move rfl) rfl rfl ?_
    refine RL.ev (.move rfl) rfl rfl ?_
    refine RL.ev (.move rfl) rfl rfl ?_
    refine RL.ev (.indexS sl35 rfl rfl (by omega) (hl.is (i := 0) (by simp only [List.length_map, List.length_cons, List.length_nil]; omega))) rfl rfl ?_
    refine RL.ev (.loadR ([.int .i64 x.k, .int .i64 x.v]) sh82 rfl ((hl.sub S).rowAt (enc := It.cells) (i := (i + j) / 2) hx) rfl) rfl rfl ?_
    refine RL.ev (.move rfl) rfl rfl ?_
    refine RL.callv rfl rfl (us := []) (cs := []) hg (hn x w1) rfl rfl ?_
    rintro _ w3 ⟨rfl, s4⟩
    have S := S.trans s4
    refine RL.ev (.bin rfl rfl rfl) rfl rfl ?_
    refine RL.nil (RC.back ?_)
    refine RC.cond_dec rfl (fun h5 => ?_) (fun h5 => ?_)
    ·
      have h31 : cf x < 0 := h5
      refine RC.region rfl ?_
      refine RL.ev (.move rfl) rfl rfl ?_
      refine RL.ev (.as (.bin rfl rfl rfl) (wi64 (y := (((i + j) / 2 + 1 : Nat) : Int)) (by omega) (by omega))) rfl rfl ?_
      refine RL.ev (.assign rfl) rfl rfl ?_
      exact RL.nil (fun a ka => ⟨((i + j) / 2 + 1, j), ⟨⟨by omega, hj, fun k z hk hz => hmono k _ z x (by omega) hz hx h31, hp2⟩, S⟩, by omega, ka.keep (keep_of (by repeat (first | exact trivial | refine And.intro rfl ?_)))⟩)
    ·
      have h31 : ¬ cf x < 0 := h5
      refine RC.region rfl ?_
      refine RL.ev (.move rfl) rfl rfl ?_
      refine RL.ev (.assign rfl) rfl rfl ?_
      exact RL.nil (fun a ka => ⟨(i, (i + j) / 2), ⟨⟨by omega, by omega, hp1, fun k z hk hz hlt => h31 (hmono _ k x z hk hx hz hlt)⟩, S⟩, by omega, ka.keep (keep_of (by repeat (first | exact trivial | refine And.intro rfl ?_)))⟩)
  ·
    have h17 : i = j := (by omega)
    subst h17
    refine RC.exit rfl (RC.back ?_)
    refine RC.seq ?_
    refine RC.region rfl ?_
    refine RL.ev (.move rfl) rfl rfl ?_
    refine RL.ev (.move rfl) rfl rfl ?_
    refine RL.ev (.move rfl) rfl rfl ?_
    refine RL.ev (.bin rfl rfl rfl) rfl rfl ?_
    refine RL.ev (.move rfl) rfl rfl ?_
    refine RL.split 39 rfl (fun h6 => ?_) (fun h6 => ?_)
    ·
      have h39 : i < l.length := (by omega)
      obtain ⟨y, hy⟩ := getSome (l := l) (i := i) h39
      refine RL.ev (.move rfl) rfl rfl ?_
      refine RL.ev (.move rfl) rfl rfl ?_
      refine RL.ev (.move rfl) rfl rfl ?_
      refine RL.ev (.indexS sl35 rfl rfl (by omega) (hl.is (i := 0) (by simp only [List.length_map, List.length_cons, List.length_nil]; omega))) rfl rfl ?_
      refine RL.ev (.loadR ([.int .i64 y.k, .int .i64 y.v]) sh82 rfl ((hl.sub S).rowAt (enc := It.cells) (i := i) hy) rfl) rfl rfl ?_
      refine RL.ev (.move rfl) rfl rfl ?_
      refine RL.callv rfl rfl (us := []) (cs := []) hg (hn y w1) rfl rfl ?_
      rintro _ w7 ⟨rfl, s8⟩
      have S := S.trans s8
      refine RL.ev (.bin rfl rfl rfl) rfl rfl ?_
      refine RL.ev (.pick_t rfl rfl) rfl rfl ?_
      refine RL.ev (.assign rfl) rfl rfl ?_
      refine RL.ev (.assign rfl) rfl rfl ?_
      refine RL.nil (RC.back ?_)
      refine RC.done (rs := [.tmp 6, .tmp 7]) (vs := [_, _]) rfl rfl ⟨rfl, rfl, trivial⟩ ?_
      -- end 1
      refine ⟨S, i, by omega, ?_, hp1, hp2⟩
      rw [show pB (∃ x, l[i]? = some x ∧ cf x = 0) = decide (cf y = 0) from by rw [Bool.eq_iff_iff, pB_iff, decide_eq_true_iff]; exact ⟨fun ⟨x, h1, h2⟩ => by rw [hy] at h1; cases h1; exact h2, fun h => ⟨y, hy, h⟩⟩]
      rfl
    ·
      have h39 : i = l.length := (by omega)
      refine RL.off rfl rfl ?_
      refine RL.off rfl rfl ?_
      refine RL.off rfl rfl ?_
      refine RL.off rfl rfl ?_
      refine RL.off rfl rfl ?_
      refine RL.off rfl rfl ?_
      refine RL.off rfl rfl ?_
      refine RL.off rfl rfl ?_
      refine RL.ev (.pick_f rfl rfl) rfl rfl ?_
      refine RL.ev (.assign rfl) rfl rfl ?_
      refine RL.ev (.assign rfl) rfl rfl ?_
      refine RL.nil (RC.back ?_)
      refine RC.done (rs := [.tmp 6, .tmp 7]) (vs := [_, _]) rfl rfl ⟨rfl, rfl, trivial⟩ ?_
      -- end 2
      refine ⟨S, i, by omega, ?_, hp1, hp2⟩
      rw [pB_no (fun ⟨x, h1, _⟩ => absurd (lt_of_get h1) (by omega))]
      rfl
/-- where a row is parted by a test that fails from some place on -/
theorem c_bsf2 (g : FuncId) (hg : calleeOK Try.prog g = true) (key : It) (cf : It → Int) (hn : ∀ x w', FC Try.prog g [x.val, key.val] w' (Val (.int .i64 (cf x)) w')) (l : List It) (hmono : ∀ (i j : Nat) (x y : It), i ≤ j → l[i]? = some x → l[j]? = some y → cf y < 0 → cf x < 0) (a : Option Addr) (c m : Nat) (hm : m = l.length) (w : World) (hl : Sl w a 2 (l.map It.cells)) (hb : l.length ≤ 1000000) :
    FC Try.prog 81 [.slice a m c, key.val, .func (.func g) #[] #[]] w (fun u w' => Sub w w' ∧ ∃ n : Nat, n ≤ l.length ∧ u = .tuple #[.int .i64 (n : Int), .bool (pB (∃ x, l[n]? = some x ∧ cf x = 0))] ∧ (∀ k x, k < n → l[k]? = some x → cf x < 0) ∧ ∀ k x, n ≤ k → l[k]? = some x → ¬ cf x < 0) := by
  subst hm
  refine FC.intro Try.func81 rfl Try.ntmps81 rfl ?_
  have S := Sub.refl w
  refine RC.seq ?_
  refine RC.region rfl ?_
  refine RL.box rfl rfl rfl (fun b_4 w_4 e_4 z_4 hb_4 s_4 => ?_)
  have ge_4 := S.le e_4
  have S := S.trans s_4
  have hb_4 : Has w_4 b_4 ([.int .i64 key.k, .int .i64 key.v]) _ := hb_4
  refine RL.ev (.assign rfl) rfl rfl ?_
  refine RL.ev (.assign rfl) rfl rfl ?_
  refine RL.nil (RC.back ?_)
  refine RC.seq ?_
  refine RC.region rfl ?_
  refine RL.ev (.move rfl) rfl rfl ?_
  refine RL.ev (.len sl35 rfl) rfl rfl ?_
  refine RL.ev (.assign rfl) rfl rfl ?_
  refine RL.nil (RC.back ?_)
  refine RC.seq ?_
  refine RC.region rfl ?_
  refine RL.ev (.move rfl) rfl rfl ?_
  refine RL.ev (.assign rfl) rfl rfl ?_
  refine RL.ev (.assign rfl) rfl rfl ?_
  refine RL.nil (RC.back ?_)
  refine RC.seq ?_
  refine RC.block ?_
  refine RC.loop (α := Nat × Nat) (fun x => [(0, .slice a l.length c), (2, .func (.func g) #[] #[]), (4, .pointer (some ⟨b_4, 0, none⟩)), (8, .int .i64 (l.length : Int)), (9, .int .i64 (x.1 : Int)), (10, .int .i64 (x.2 : Int))]) (fun x w1 => (x.1 ≤ x.2 ∧ x.2 ≤ l.length ∧ (∀ k z, k < x.1 → l[k]? = some z → cf z < 0) ∧ ∀ k z, x.2 ≤ k → l[k]? = some z → ¬ cf z < 0) ∧ Has w1 b_4 [.int .i64 key.k, .int .i64 key.v] 82 ∧ Sub w w1) (fun x => x.2 - x.1) (0, l.length) (keep_of (by repeat (first | exact trivial | refine And.intro rfl ?_))) (⟨⟨Nat.zero_le _, Nat.le_refl _, fun k z h _ => absurd h (Nat.not_lt_zero _), fun k z h e => absurd (lt_of_get e) (Nat.not_lt.2 h)⟩, hb_4, S⟩) (fun x w1 hJ => ?_)
  obtain ⟨i, j⟩ := x; obtain ⟨⟨hij, hj, hp1, hp2⟩, hb_4, S⟩ := hJ; simp only [] at hij hj hp1 hp2
  refine RC.seq ?_
  refine RC.seq ?_
  refine RC.region rfl ?_
  refine RL.ev (.move rfl) rfl rfl ?_
  refine RL.ev (.move rfl) rfl rfl ?_
  refine RL.ev (.bin rfl rfl rfl) rfl rfl ?_
  refine RL.nil (RC.back ?_)
  refine RC.cond_dec rfl (fun h2 => ?_) (fun h2 => ?_)
  ·
    have h17 : i < j := (by omega)
    obtain ⟨x, hx⟩ := getSome (l := l) (i := (i + j) / 2) (by omega)
    refine RC.skip (RC.back ?_)
    refine RC.block ?_
    refine RC.seq ?_
    refine RC.region rfl ?_
    refine RL.ev (.move rfl) rfl rfl ?_
    refine RL.ev (.move rfl) rfl rfl ?_
    refine RL.ev (.as (.bin rfl rfl rfl) (wi64 (y := ((i + j : Nat) : Int)) (by omega) (by omega))) rfl rfl ?_
    refine RL.ev (.conv i3 i116 rfl) rfl rfl ?_
    refine RL.ev (.shr rfl rfl (by decide)) rfl rfl ?_
    refine RL.ev (.as (v' := .int .i64 (((i + j) / 2 : Nat) : Int)) (.conv i116 i3 rfl) (by rw [half_conv (by omega)])) rfl rfl ?_
    refine RL.ev (.assign rfl) rfl rfl ?_
    refine RL.nil (RC.back ?_)
    refine RC.seq ?_
    refine RC.draw rfl mxo (by kernel_rfl) ?_
    refine RQ.ev (.move rfl) rfl rfl ?_
    refine RQ.ev (.move rfl) rfl rfl ?_
    refine RQ.ev (.move rfl) rfl rfl ?_
    refine RQ.ev (.indexS sl35 rfl rfl (by omega) (hl.is (i := 0) (by simp only [List.length_map, List.length_cons, List.length_nil]; omega))) rfl rfl ?_
    refine RQ.ev (.loadR ([.int .i64 x.k, .int .i64 x.v]) sh82 rfl ((hl.sub S).rowAt (enc := It.cells) (i := (i + j) / 2) hx) rfl) rfl rfl ?_
    refine RQ.ev (.loadR ([.int .i64 key.k, .int .i64 key.v]) sh82 rfl hb_4.row rfl) rfl rfl ?_
    refine RQ.callv rfl rfl (us := []) (cs := []) hg (fun w' s' => hn x w') rfl rfl ?_
    refine RQ.ev (.bin rfl rfl rfl) rfl rfl ?_
    refine RQ.nil (fun w3 s4 => RC.back ?_)
    have S := S.trans s4
    have hb_4 := hb_4.sub s4
    refine RC.cond_dec rfl (fun h5 => ?_) (fun h5 => ?_)
    ·
      have h31 : cf x < 0 := h5
      refine RC.region rfl ?_
      refine RL.ev (.move rfl) rfl rfl ?_
      refine RL.ev (.as (.bin rfl rfl rfl) (wi64 (y := (((i + j) / 2 + 1 : Nat) : Int)) (by omega) (by omega))) rfl rfl ?_
      refine RL.ev (.assign rfl) rfl rfl ?_
      exact RL.nil (fun a ka => ⟨((i + j) / 2 + 1, j), ⟨⟨by omega, hj, fun k z hk hz => hmono k _ z x (by omega) hz hx h31, hp2⟩, hb_4, S⟩, by omega, ka.keep (keep_of (by repeat (first | exact trivial | refine And.intro rfl ?_)))⟩)
    ·
      have h31 : ¬ cf x < 0 := h5
      refine RC.region rfl ?_
      refine RL.ev (.move rfl) rfl rfl ?_
      refine RL.ev (.assign rfl) rfl rfl ?_
      exact RL.nil (fun a ka => ⟨(i, (i + j) / 2), ⟨⟨by omega, by omega, hp1, fun k z hk hz hlt => h31 (hmono _ k x z hk hx hz hlt)⟩, hb_4, S⟩, by omega, ka.keep (keep_of (by repeat (first | exact trivial | refine And.intro rfl ?_)))⟩)
  ·
    have h17 : i = j := (by omega)
    subst h17
    refine RC.exit rfl (RC.back ?_)
    refine RC.seq ?_
    refine RC.draw rfl mxo (by kernel_rfl) ?_
    refine RQ.ev (.move rfl) rfl rfl ?_
    refine RQ.ev (.move rfl) rfl rfl ?_
    refine RQ.ev (.move rfl) rfl rfl ?_
    refine RQ.ev (.bin rfl rfl rfl) rfl rfl ?_
    refine RQ.ev (.move rfl) rfl rfl ?_
    refine RQ.split 39 rfl (fun h6 => ?_) (fun h6 => ?_)
    ·
      have h39 : i < l.length := (by omega)
      obtain ⟨y, hy⟩ := getSome (l := l) (i := i) h39
      refine RQ.ev (.move rfl) rfl rfl ?_
      refine RQ.ev (.move rfl) rfl rfl ?_
      refine RQ.ev (.move rfl) rfl rfl ?_
      refine RQ.ev (.indexS sl35 rfl rfl (by omega) (hl.is (i := 0) (by simp only [List.length_map, List.length_cons, List.length_nil]; omega))) rfl rfl ?_
      refine RQ.ev (.loadR ([.int .i64 y.k, .int .i64 y.v]) sh82 rfl ((hl.sub S).rowAt (enc := It.cells) (i := i) hy) rfl) rfl rfl ?_
      refine RQ.ev (.loadR ([.int .i64 key.k, .int .i64 key.v]) sh82 rfl hb_4.row rfl) rfl rfl ?_
      refine RQ.callv rfl rfl (us := []) (cs := []) hg (fun w' s' => hn y w') rfl rfl ?_
      refine RQ.ev (.bin rfl rfl rfl) rfl rfl ?_
      refine RQ.ev (.pick_t rfl rfl) rfl rfl ?_
      refine RQ.ev (.assign rfl) rfl rfl ?_
      refine RQ.ev (.assign rfl) rfl rfl ?_
      refine RQ.nil (fun w7 s8 => RC.back ?_)
      have S := S.trans s8
      have hb_4 := hb_4.sub s8
      refine RC.done (rs := [.tmp 6, .tmp 7]) (vs := [_, _]) rfl rfl ⟨rfl, rfl, trivial⟩ ?_
      -- end 1
      refine ⟨S, i, by omega, ?_, hp1, hp2⟩
      rw [show pB (∃ x, l[i]? = some x ∧ cf x = 0) = decide (cf y = 0) from by rw [Bool.eq_iff_iff, pB_iff, decide_eq_true_iff]; exact ⟨fun ⟨x, h1, h2⟩ => by rw [hy] at h1; cases h1; exact h2, fun h => ⟨y, hy, h⟩⟩]
      rfl
    ·
      have h39 : i = l.length := (by omega)
      refine RQ.off rfl rfl ?_
      refine RQ.off rfl rfl ?_
      refine RQ.off rfl rfl ?_
      refine RQ.off rfl rfl ?_
      refine RQ.off rfl rfl ?_
      refine RQ.off rfl rfl ?_
      refine RQ.off rfl rfl ?_
      refine RQ.off rfl rfl ?_
      refine RQ.ev (.pick_f rfl rfl) rfl rfl ?_
      refine RQ.ev (.assign rfl) rfl rfl ?_
      refine RQ.ev (.assign rfl) rfl rfl ?_
      refine RQ.nil (fun w9 s10 => RC.back ?_)
      have S := S.trans s10
      have hb_4 := hb_4.sub s10
      refine RC.done (rs := [.tmp 6, .tmp 7]) (vs := [_, _]) rfl rfl ⟨rfl, rfl, trivial⟩ ?_
      -- end 2
      refine ⟨S, i, by omega, ?_, hp1, hp2⟩
      rw [pB_no (fun ⟨x, h1, _⟩ => absurd (lt_of_get h1) (by omega))]
      rfl
end Go.Proofs.Ytlhnnleaiinjaaa
set_option linter.unusedVariables false
set_option linter.unusedSimpArgs false
namespace Go.Proofs.Ytlhnnleaiinjaaa
open Go Go.XL
theorem c_indexIt (g : FuncId) (hg : calleeOK Try.prog g = true) (cs : List Value) (q : It → Bool) (l : List It) (a : Option Addr) (c m : Nat) (hm : m = l.length) (w : World) (hn : ∀ x ∈ l, ∀ w', Sub w w' → FC Try.prog g ([x.val] ++ cs) w' (Val (.bool (q x)) w')) (hl : Sl w a 2 (l.map It.cells)) (hb : l.length ≤ 1000000) :
    FC Try.prog 60 [.slice a m c, .func (.func g) #[] cs.toArray] w (fun u w' => Sub w w' ∧ ∃ n, u = .int .i64 n ∧ (n < 0 ∧ l.any q = false ∨ 0 ≤ n ∧ l.any q = true)) := by
  subst hm
  refine FC.intro Try.func60 rfl Try.ntmps60 rfl ?_
  have S := Sub.refl w
  refine RC.seq ?_
  refine RC.region rfl ?_
  refine RL.ev (.assign rfl) rfl rfl ?_
  refine RL.nil (RC.back ?_)
  refine RC.seq ?_
  refine RC.seq ?_
  refine RC.region rfl ?_
  refine RL.ev (.move rfl) rfl rfl ?_
  refine RL.ev (.len sl35 rfl) rfl rfl ?_
  refine RL.ev (.move rfl) rfl rfl ?_
  refine RL.nil (RC.back ?_)
  refine RC.block ?_
  refine RC.loop (α := Nat) (fun i => [(0, .slice a l.length c), (1, .func (.func g) #[] cs.toArray), (7, .int .i64 (l.length : Int)), (8, .int .i64 (i : Int))]) (fun i w1 => (i ≤ l.length ∧ ∀ x ∈ l.take i, q x = false) ∧ Sub w w1) (fun i => l.length - i) 0 (keep_of (by repeat (first | exact trivial | refine And.intro rfl ?_))) (⟨⟨Nat.zero_le _, by simp⟩, S⟩) (fun i w1 hJ => ?_)
  obtain ⟨⟨hi, hp⟩, S⟩ := hJ
  refine RC.seq ?_
  refine RC.region rfl ?_
  refine RL.ev (.bin rfl rfl rfl) rfl rfl ?_
  refine RL.nil (RC.back ?_)
  refine RC.seq ?_
  refine RC.cond_dec rfl (fun h2 => ?_) (fun h2 => ?_)
  ·
    obtain ⟨x, hx⟩ := getSome (l := l) (i := i) (by omega)
    have hxm := List.mem_of_getElem? hx
    refine RC.skip (RC.back ?_)
    refine RC.seq ?_
    refine RC.block ?_
    refine RC.seq ?_
    refine RC.region rfl ?_
    refine RL.ev (.move rfl) rfl rfl ?_
    refine RL.ev (.assign rfl) rfl rfl ?_
    refine RL.nil (RC.back ?_)
    refine RC.seq ?_
    refine RC.region rfl ?_
    refine RL.ev (.move rfl) rfl rfl ?_
    refine RL.ev (.move rfl) rfl rfl ?_
    refine RL.ev (.move rfl) rfl rfl ?_
    refine RL.ev (.indexS sl35 rfl rfl (by omega) (hl.is (i := 0) (by simp only [List.length_map, List.length_cons, List.length_nil]; omega))) rfl rfl ?_
    refine RL.ev (.loadR (x.cells) sh82 rfl ((hl.sub S).rowAt (enc := It.cells) (i := i) hx) rfl) rfl rfl ?_
    refine RL.callv rfl rfl (us := []) (cs := cs) hg (hn x hxm w1 S) rfl rfl ?_
    rintro _ w3 ⟨rfl, s4⟩
    have S := S.trans s4
    refine RL.nil (RC.back ?_)
    refine RC.cond rfl (fun h5 => ?_) (fun h5 => ?_)
    ·
      have h16 : q x = true := h5
      refine RC.seq ?_
      refine RC.region rfl ?_
      refine RL.ev (.move rfl) rfl rfl ?_
      refine RL.ev (.assign rfl) rfl rfl ?_
      refine RL.nil (RC.back ?_)
      refine RC.done (rs := [.tmp 4]) (vs := [_]) rfl rfl ⟨rfl, trivial⟩ ?_
      -- end 1
      exact ⟨S, _, rfl, .inr ⟨by omega, List.any_eq_true.2 ⟨x, hxm, h16⟩⟩⟩
    ·
      have h16 : q x = false := h5
      refine RC.skip (RC.back ?_)
      refine RC.region rfl ?_
      refine RL.ev (.as (.bin rfl rfl rfl) (wi64 (y := ((i + 1 : Nat) : Int)) (by omega) (by omega))) rfl rfl ?_
      refine RL.ev (.move rfl) rfl rfl ?_
      exact RL.nil (fun a ka => ⟨i + 1, ⟨⟨by omega, fun z hz => by rw [List.take_add_one, hx] at hz; rcases List.mem_append.1 hz with hz | hz; exact hp z hz; have e : z = x := (by simpa using hz); rw [e]; exact h16⟩, S⟩, by omega, ka.keep (keep_of (by repeat (first | exact trivial | refine And.intro rfl ?_)))⟩)
  ·
    obtain rfl : i = l.length := (by omega)
    rw [List.take_length] at hp
    refine RC.exit rfl (RC.back ?_)
    refine RC.seq ?_
    refine RC.region rfl ?_
    refine RL.ev (.assign rfl) rfl rfl ?_
    refine RL.nil (RC.back ?_)
    refine RC.done (rs := [.tmp 4]) (vs := [_]) rfl rfl ⟨rfl, trivial⟩ ?_
    -- end 2
    exact ⟨S, _, rfl, .inl ⟨by decide, List.any_eq_false.2 fun z hz => by rw [hp z hz]; simp⟩⟩
theorem c_containsIt (g : FuncId) (hg : calleeOK Try.prog g = true) (cs : List Value) (q : It → Bool) (l : List It) (a : Option Addr) (c m : Nat) (hm : m = l.length) (w : World) (hn : ∀ x ∈ l, ∀ w', Sub w w' → FC Try.prog g ([x.val] ++ cs) w' (Val (.bool (q x)) w')) (hl : Sl w a 2 (l.map It.cells)) (hb : l.length ≤ 1000000) :
    FC Try.prog 54 [.slice a m c, .func (.func g) #[] cs.toArray] w (Val (.bool (l.any q)) w) := by
  subst hm
  refine FC.intro Try.func54 rfl Try.ntmps54 rfl ?_
  have S := Sub.refl w
  refine RC.seq ?_
  refine RC.region rfl ?_
  refine RL.ev (.assign rfl) rfl rfl ?_
  refine RL.nil (RC.back ?_)
  refine RC.seq ?_
  refine RC.region rfl ?_
  refine RL.ev (.move rfl) rfl rfl ?_
  refine RL.ev (.move rfl) rfl rfl ?_
  refine RL.call rfl ok60 (c_indexIt g hg cs q l a c _ rfl w (fun x hx w' s => hn x hx w' (S.trans s)) (hl.sub S) hb) rfl rfl ?_
  rintro _ w1 ⟨s2, n, rfl, hn7⟩
  have S := S.trans s2
  refine RL.ev (.bin rfl rfl rfl) rfl rfl ?_
  refine RL.ev (.assign rfl) rfl rfl ?_
  refine RL.nil (RC.back ?_)
  refine RC.done (rs := [.tmp 4]) (vs := [_]) rfl rfl ⟨rfl, trivial⟩ ?_
  -- end 1
  rcases hn7 with ⟨h1, h2⟩ | ⟨h1, h2⟩
  rw [h2]
  exact ⟨congrArg Value.bool (decide_eq_false (by omega)), S⟩
  rw [h2]
  exact ⟨congrArg Value.bool (decide_eq_true (by omega)), S⟩
structure Mo where
  map : List It
  tab : List It
  row : List Int
  heap : List It
/-- where it lies -/
structure Ph where
  a1 : Option Addr
  c1 : Nat
  a2 : Option Addr
  c2 : Nat
  a3 : Option Addr
  c3 : Nat
  a4 : Option Addr
  c4 : Nat
def moC (p : Ph) (m : Mo) : List Value := [.slice p.a1 m.map.length p.c1, .slice p.a2 m.tab.length p.c2, .slice p.a3 m.row.length p.c3, .slice p.a4 m.heap.length p.c4]
def moV (p : Ph) (m : Mo) : Value := .agg (moC p m).toArray
structure MoR (w : World) (p : Ph) (m : Mo) : Prop where
  h1 : Sl w p.a1 2 (m.map.map It.cells)
  h2 : Sl w p.a2 2 (m.tab.map It.cells)
  h3 : Sl w p.a3 1 (m.row.map fun x => [i6 x])
  h4 : Sl w p.a4 2 (m.heap.map It.cells)
structure MoS (p : Ph) (m : Mo) : Prop where
  k1 : m.map.length ≤ p.c1
  k2 : m.tab.length ≤ p.c2
  k3 : m.row.length ≤ p.c3
  k4 : m.heap.length ≤ p.c4
  l1 : m.map.length ≤ 1000
  l2 : m.tab.length ≤ 1000
  l3 : m.row.length ≤ 1000
  l4 : m.heap.length ≤ 1000
theorem MoR.sub {w w' : World} {p : Ph} {m : Mo} (h : MoR w p m) (s : Sub w w') : MoR w' p m := ⟨h.h1.sub s, h.h2.sub s, h.h3.sub s, h.h4.sub s⟩
def upB (x y : It) : Bool := decide (x.k < y.k)
def leB (x y : It) : Bool := decide (¬ lessP y x)
def rightM (m : Mo) : Prop := keysP upB m.map ∧ keysP upB m.tab ∧ (∀ x ∈ m.tab, crowdL m.tab x.k ≤ 9) ∧ m.row.length ≤ 200 ∧ keysP leB m.heap
theorem c_crowded (b1 : Nat) (p : Ph) (m : Mo) (hs : MoS p m) (x : It) (w : World) (hb : Has w b1 (moC p m) 38) (hr : MoR w p m) :
    FC Try.prog 51 [x.val, .pointer (some ⟨b1, 0, none⟩)] w (Val (.bool (decide (9 < crowdL m.tab x.k))) w) := by
  have l2 := hs.l2
  refine FC.intro Try.func51 rfl Try.ntmps51 rfl ?_
  have S := Sub.refl w
  refine RC.seq ?_
  refine RC.region rfl ?_
  refine RL.box rfl rfl rfl (fun b_2 w_2 e_2 z_2 hb_2 s_2 => ?_)
  have ge_2 := S.le e_2
  have n1__2 := hb.ne e_2
  have S := S.trans s_2
  have hb := hb.sub s_2
  have hb_2 : Has w_2 b_2 ([.int .i64 x.k, .int .i64 x.v]) _ := hb_2
  refine RL.ev (.assign rfl) rfl rfl ?_
  refine RL.nil (RC.back ?_)
  refine RC.seq ?_
  refine RC.region rfl ?_
  refine RL.ev (.field0 fo38_1 rfl) rfl rfl ?_
  refine RL.ev (.load1 sh35 rfl (hb.cell rfl)) rfl rfl ?_
  refine RL.ev (.field0 fo82_0 rfl) rfl rfl ?_
  refine RL.ev (.load1 sh2 rfl (hb_2.cell rfl)) rfl rfl ?_
  refine RL.call rfl ok52 (c_crowd m.tab p.a2 p.c2 _ rfl x.k w_2 (hr.h2.sub S) (by omega)) rfl rfl ?_
  rintro _ w1 ⟨rfl, s2⟩
  have S := S.trans s2
  have hb := hb.sub s2
  have hb_2 := hb_2.sub s2
  refine RL.ev (.bin rfl rfl rfl) rfl rfl ?_
  refine RL.ev (.assign rfl) rfl rfl ?_
  refine RL.nil (RC.back ?_)
  refine RC.done (rs := [.tmp 3]) (vs := [_]) rfl rfl ⟨rfl, trivial⟩ ?_
  -- end 1
  exact ⟨congrArg Value.bool (decide_eq_decide.2 (by omega)), S⟩
theorem c_right (p : Ph) (m : Mo) (hs : MoS p m) (w : World) (hr : MoR w p m) : FC Try.prog 46 [moV p m] w (Val (.bool (pB (rightM m))) w) := by
  have l1 := hs.l1
  have l2 := hs.l2
  have l3 := hs.l3
  have l4 := hs.l4
  refine FC.intro Try.func46 rfl Try.ntmps46 rfl ?_
  have S := Sub.refl w
  refine RC.seq ?_
  refine RC.region rfl ?_
  refine RL.box rfl rfl rfl (fun b_1 w_1 e_1 z_1 hb_1 s_1 => ?_)
  have ge_1 := S.le e_1
  have S := S.trans s_1
  have hb_1 : Has w_1 b_1 ([.slice p.a1 m.map.length p.c1, .slice p.a2 m.tab.length p.c2, .slice p.a3 m.row.length p.c3, .slice p.a4 m.heap.length p.c4]) _ := hb_1
  refine RL.ev (.assign rfl) rfl rfl ?_
  refine RL.nil (RC.back ?_)
  refine RC.seq ?_
  refine RC.region rfl ?_
  refine RL.ev (.assign rfl) rfl rfl ?_
  refine RL.nil (RC.back ?_)
  refine RC.seq ?_
  refine RC.region rfl ?_
  refine RL.ev (.func (xs := []) (ys := [_]) rfl rfl) rfl rfl ?_
  refine RL.ev (.assign rfl) rfl rfl ?_
  refine RL.nil (RC.back ?_)
  refine RC.seq ?_
  refine RC.region rfl ?_
  refine RL.ev (.field0 fo38_0 rfl) rfl rfl ?_
  refine RL.ev (.load1 sh35 rfl (hb_1.cell rfl)) rfl rfl ?_
  refine RL.ev (.move rfl) rfl rfl ?_
  refine RL.call rfl ok53 (c_keys 50 ok50 upB c_up m.map p.a1 p.c1 _ rfl w_1 (hr.h1.sub S) (by omega)) rfl rfl ?_
  rintro _ w1 ⟨rfl, s2⟩
  have S := S.trans s2
  have hb_1 := hb_1.sub s2
  refine RL.ev (.move rfl) rfl rfl ?_
  refine RL.splitB 10 rfl (fun h3 => ?_) (fun h3 => ?_)
  ·
    have g10 := pB_iff.1 h3
    refine RL.ev (.field0 fo38_1 rfl) rfl rfl ?_
    refine RL.ev (.load1 sh35 rfl (hb_1.cell rfl)) rfl rfl ?_
    refine RL.ev (.move rfl) rfl rfl ?_
    refine RL.call rfl ok53 (c_keys 50 ok50 upB c_up m.tab p.a2 p.c2 _ rfl w1 (hr.h2.sub S) (by omega)) rfl rfl ?_
    rintro _ w4 ⟨rfl, s5⟩
    have S := S.trans s5
    have hb_1 := hb_1.sub s5
    refine RL.ev (.pick_t rfl rfl) rfl rfl ?_
    refine RL.ev (.move rfl) rfl rfl ?_
    refine RL.splitB 16 rfl (fun h6 => ?_) (fun h6 => ?_)
    ·
      have g16 := pB_iff.1 h6
      refine RL.ev (.field0 fo38_1 rfl) rfl rfl ?_
      refine RL.ev (.load1 sh35 rfl (hb_1.cell rfl)) rfl rfl ?_
      refine RL.ev (.move rfl) rfl rfl ?_
      refine RL.call rfl ok54 (c_containsIt 51 ok51 [.pointer (some ⟨b_1, 0, none⟩)] (fun x => decide (9 < crowdL m.tab x.k)) m.tab p.a2 p.c2 _ rfl w4 (fun x _ w' s => c_crowded b_1 p m hs x w' (hb_1.sub s) ((hr.sub S).sub s)) (hr.h2.sub S) (by omega)) rfl rfl ?_
      rintro _ w7 ⟨rfl, s8⟩
      have S := S.trans s8
      have hb_1 := hb_1.sub s8
      refine RL.ev (.not rfl) rfl rfl ?_
      refine RL.ev (.pick_t rfl rfl) rfl rfl ?_
      refine RL.ev (.move rfl) rfl rfl ?_
      refine RL.splitB 23 rfl (fun h9 => ?_) (fun h9 => ?_)
      ·
        have g23 : ∀ x ∈ m.tab, crowdL m.tab x.k ≤ 9 := (fun x hx => by have q := h9; rw [Bool.not_eq_true', List.any_eq_false] at q; have := q x hx; simp at this; omega)
        refine RL.ev (.field0 fo38_2 rfl) rfl rfl ?_
        refine RL.ev (.load1 sh36 rfl (hb_1.cell rfl)) rfl rfl ?_
        refine RL.ev (.len sl36 rfl) rfl rfl ?_
        refine RL.ev (.bin rfl rfl rfl) rfl rfl ?_
        refine RL.ev (.pick_t rfl rfl) rfl rfl ?_
        refine RL.ev (.move rfl) rfl rfl ?_
        refine RL.split 29 rfl (fun h10 => ?_) (fun h10 => ?_)
        ·
          have g29 : m.row.length ≤ 200 := (by omega)
          refine RL.ev (.field0 fo38_3 rfl) rfl rfl ?_
          refine RL.ev (.load1 sh35 rfl (hb_1.cell rfl)) rfl rfl ?_
          refine RL.call rfl ok53 (c_keys 55 ok55 leB c_le3 m.heap p.a4 p.c4 _ rfl w7 (hr.h4.sub S) (by omega)) rfl rfl ?_
          rintro _ w11 ⟨rfl, s12⟩
          have S := S.trans s12
          have hb_1 := hb_1.sub s12
          refine RL.ev (.pick_t rfl rfl) rfl rfl ?_
          refine RL.ev (.assign rfl) rfl rfl ?_
          refine RL.nil (RC.back ?_)
          refine RC.done (rs := [.tmp 2]) (vs := [_]) rfl rfl ⟨rfl, trivial⟩ ?_
          -- end 1
          refine ⟨congrArg Value.bool ?_, S⟩
          first | exact (pB_no (fun e => absurd e.1 g10)).symm | exact (pB_no (fun e => absurd e.2.1 g16)).symm | exact (pB_no (fun e => absurd e.2.2.1 g23)).symm | exact (pB_no (fun e => absurd e.2.2.2.1 g29)).symm | exact pB_congr ⟨fun h => ⟨g10, g16, g23, g29, h⟩, fun h => h.2.2.2.2⟩
        ·
          have g29 : ¬ m.row.length ≤ 200 := (by omega)
          refine RL.off rfl rfl ?_
          refine RL.off rfl rfl ?_
          refine RL.off rfl rfl ?_
          refine RL.ev (.pick_f rfl rfl) rfl rfl ?_
          refine RL.ev (.assign rfl) rfl rfl ?_
          refine RL.nil (RC.back ?_)
          refine RC.done (rs := [.tmp 2]) (vs := [_]) rfl rfl ⟨rfl, trivial⟩ ?_
          -- end 2
          refine ⟨congrArg Value.bool ?_, S⟩
          first | exact (pB_no (fun e => absurd e.1 g10)).symm | exact (pB_no (fun e => absurd e.2.1 g16)).symm | exact (pB_no (fun e => absurd e.2.2.1 g23)).symm | exact (pB_no (fun e => absurd e.2.2.2.1 g29)).symm | exact pB_congr ⟨fun h => ⟨g10, g16, g23, g29, h⟩, fun h => h.2.2.2.2⟩
      ·
        have g23 : ¬ ∀ x ∈ m.tab, crowdL m.tab x.k ≤ 9 := (fun e => by have q := h9; rw [Bool.not_eq_false', List.any_eq_true] at q; obtain ⟨x, hx, hx2⟩ := q; have := e x hx; simp at hx2; omega)
        refine RL.off rfl rfl ?_
        refine RL.off rfl rfl ?_
        refine RL.off rfl rfl ?_
        refine RL.off rfl rfl ?_
        refine RL.ev (.pick_f rfl rfl) rfl rfl ?_
        refine RL.ev (.move rfl) rfl rfl ?_
        refine RL.off rfl rfl ?_
        refine RL.off rfl rfl ?_
        refine RL.off rfl rfl ?_
        refine RL.ev (.pick_f rfl rfl) rfl rfl ?_
        refine RL.ev (.assign rfl) rfl rfl ?_
        refine RL.nil (RC.back ?_)
        refine RC.done (rs := [.tmp 2]) (vs := [_]) rfl rfl ⟨rfl, trivial⟩ ?_
        -- end 3
        refine ⟨congrArg Value.bool ?_, S⟩
        first | exact (pB_no (fun e => absurd e.1 g10)).symm | exact (pB_no (fun e => absurd e.2.1 g16)).symm | exact (pB_no (fun e => absurd e.2.2.1 g23)).symm | exact (pB_no (fun e => absurd e.2.2.2.1 g29)).symm | exact pB_congr ⟨fun h => ⟨g10, g16, g23, g29, h⟩, fun h => h.2.2.2.2⟩
    ·
      have g16 : ¬ keysP upB m.tab := (fun e => by rw [pB_yes e] at h6; cases h6)
      refine RL.off rfl rfl ?_
      refine RL.off rfl rfl ?_
      refine RL.off rfl rfl ?_
      refine RL.off rfl rfl ?_
      refine RL.off rfl rfl ?_
      refine RL.ev (.pick_f rfl rfl) rfl rfl ?_
      refine RL.ev (.move rfl) rfl rfl ?_
      refine RL.off rfl rfl ?_
      refine RL.off rfl rfl ?_
      refine RL.off rfl rfl ?_
      refine RL.off rfl rfl ?_
      refine RL.ev (.pick_f rfl rfl) rfl rfl ?_
      refine RL.ev (.move rfl) rfl rfl ?_
      refine RL.off rfl rfl ?_
      refine RL.off rfl rfl ?_
      refine RL.off rfl rfl ?_
      refine RL.ev (.pick_f rfl rfl) rfl rfl ?_
      refine RL.ev (.assign rfl) rfl rfl ?_
      refine RL.nil (RC.back ?_)
      refine RC.done (rs := [.tmp 2]) (vs := [_]) rfl rfl ⟨rfl, trivial⟩ ?_
      -- end 4
      refine ⟨congrArg Value.bool ?_, S⟩
      first | exact (pB_no (fun e => absurd e.1 g10)).symm | exact (pB_no (fun e => absurd e.2.1 g16)).symm | exact (pB_no (fun e => absurd e.2.2.1 g23)).symm | exact (pB_no (fun e => absurd e.2.2.2.1 g29)).symm | exact pB_congr ⟨fun h => ⟨g10, g16, g23, g29, h⟩, fun h => h.2.2.2.2⟩
  ·
    have g10 : ¬ keysP upB m.map := (fun e => by rw [pB_yes e] at h3; cases h3)
    refine RL.off rfl rfl ?_
    refine RL.off rfl rfl ?_
    refine RL.off rfl rfl ?_
    refine RL.off rfl rfl ?_
    refine RL.ev (.pick_f rfl rfl) rfl rfl ?_
    refine RL.ev (.move rfl) rfl rfl ?_
    refine RL.off rfl rfl ?_
    refine RL.off rfl rfl ?_
    refine RL.off rfl rfl ?_
    refine RL.off rfl rfl ?_
    refine RL.off rfl rfl ?_
    refine RL.ev (.pick_f rfl rfl) rfl rfl ?_
    refine RL.ev (.move rfl) rfl rfl ?_
    refine RL.off rfl rfl ?_
    refine RL.off rfl rfl ?_
    refine RL.off rfl rfl ?_
    refine RL.off rfl rfl ?_
    refine RL.ev (.pick_f rfl rfl) rfl rfl ?_
    refine RL.ev (.move rfl) rfl rfl ?_
    refine RL.off rfl rfl ?_
    refine RL.off rfl rfl ?_
    refine RL.off rfl rfl ?_
    refine RL.ev (.pick_f rfl rfl) rfl rfl ?_
    refine RL.ev (.assign rfl) rfl rfl ?_
    refine RL.nil (RC.back ?_)
    refine RC.done (rs := [.tmp 2]) (vs := [_]) rfl rfl ⟨rfl, trivial⟩ ?_
    -- end 5
    refine ⟨congrArg Value.bool ?_, S⟩
    first | exact (pB_no (fun e => absurd e.1 g10)).symm | exact (pB_no (fun e => absurd e.2.1 g16)).symm | exact (pB_no (fun e => absurd e.2.2.1 g23)).symm | exact (pB_no (fun e => absurd e.2.2.2.1 g29)).symm | exact pB_congr ⟨fun h => ⟨g10, g16, g23, g29, h⟩, fun h => h.2.2.2.2⟩
theorem c_refCrowd (l : List It) (a : Option Addr) (c m : Nat) (hm : m = l.length) (key : Int) (w : World) (hl : Sl w a 2 (l.map It.cells)) (hb : l.length ≤ 1000000) :
    FC Try.prog 42 [.slice a m c, .int .i64 key] w (Val (.int .i64 (crowdL l key : Int)) w) := by
  subst hm
  refine FC.intro Try.func42 rfl Try.ntmps42 rfl ?_
  have S := Sub.refl w
  refine RC.seq ?_
  refine RC.region rfl ?_
  refine RL.ev (.assign rfl) rfl rfl ?_
  refine RL.nil (RC.back ?_)
  refine RC.seq ?_
  refine RC.region rfl ?_
  refine RL.ev (.assign rfl) rfl rfl ?_
  refine RL.nil (RC.back ?_)
  refine RC.seq ?_
  refine RC.seq ?_
  refine RC.region rfl ?_
  refine RL.ev (.move rfl) rfl rfl ?_
  refine RL.ev (.len sl35 rfl) rfl rfl ?_
  refine RL.ev (.move rfl) rfl rfl ?_
  refine RL.nil (RC.back ?_)
  refine RC.block ?_
  refine RC.loop (α := Nat × Nat) (fun x => [(1, .int .i64 key), (5, .int .i64 (x.2 : Int)), (8, .slice a l.length c), (9, .int .i64 (l.length : Int)), (10, .int .i64 (x.1 : Int))]) (fun x w1 => (x.1 ≤ l.length ∧ x.2 = crowdL (l.take x.1) key) ∧ Sub w w1) (fun x => l.length - x.1) (0, 0) (keep_of (by repeat (first | exact trivial | refine And.intro rfl ?_))) (⟨⟨Nat.zero_le _, rfl⟩, S⟩) (fun x w1 hJ => ?_)
  obtain ⟨i, n⟩ := x; obtain ⟨⟨hi, hn⟩, S⟩ := hJ; simp only [] at hi hn
  refine RC.seq ?_
  refine RC.region rfl ?_
  refine RL.ev (.bin rfl rfl rfl) rfl rfl ?_
  refine RL.nil (RC.back ?_)
  refine RC.seq ?_
  refine RC.cond_dec rfl (fun h2 => ?_) (fun h2 => ?_)
  ·
    obtain ⟨x, hx⟩ := getSome (l := l) (i := i) (by omega)
    have hst := crowdL_step hx key
    have hcl := crowdL_le (l.take i) key
    rw [List.length_take] at hcl
    refine RC.skip (RC.back ?_)
    refine RC.seq ?_
    refine RC.block ?_
    refine RC.seq ?_
    refine RC.region rfl ?_
    refine RL.ev (.indexS sl35 rfl rfl (by omega) (hl.is (i := 0) (by simp only [List.length_map, List.length_cons, List.length_nil]; omega))) rfl rfl ?_
    refine RL.ev (.loadR ([.int .i64 x.k, .int .i64 x.v]) sh82 rfl ((hl.sub S).rowAt (enc := It.cells) (i := i) hx) rfl) rfl rfl ?_
    refine RL.alloc ze82 rfl rfl (fun b_7 w_7 e_7 z_7 hb_7 s_7 => ?_)
    have ge_7 := S.le e_7
    have S := S.trans s_7
    refine RL.store sh82 rfl rfl rfl hb_7 (by exact Nat.le_of_ble_eq_true rfl) (by rfl) rfl (fun w3 z3 hb_7 a3 => ?_)
    have S := S.upd a3 ge_7
    have hb_7 : Has w3 b_7 ([.int .i64 x.k, .int .i64 x.v]) _ := hb_7.now (by kernel_rfl)
    refine RL.nil (RC.back ?_)
    refine RC.seq ?_
    refine RC.region rfl ?_
    refine RL.ev (.field0 fo82_0 rfl) rfl rfl ?_
    refine RL.ev (.load1 sh2 rfl (hb_7.cell rfl)) rfl rfl ?_
    refine RL.call rfl ok48 (c_refRank x.k w3) rfl rfl ?_
    rintro _ w4 ⟨rfl, s5⟩
    have S := S.trans s5
    have hb_7 := hb_7.sub s5
    refine RL.ev (.as (v' := .int .u64 (hashOf x.k : Int)) (.rem rfl rfl (by decide)) (by rfl)) rfl rfl ?_
    refine RL.ev (.move rfl) rfl rfl ?_
    refine RL.call rfl ok48 (c_refRank key w4) rfl rfl ?_
    rintro _ w6 ⟨rfl, s7⟩
    have S := S.trans s7
    have hb_7 := hb_7.sub s7
    refine RL.ev (.as (v' := .int .u64 (hashOf key : Int)) (.rem rfl rfl (by decide)) (by rfl)) rfl rfl ?_
    refine RL.ev (.bin rfl rfl rfl) rfl rfl ?_
    refine RL.nil (RC.back ?_)
    refine RC.cond_dec rfl (fun h8 => ?_) (fun h8 => ?_)
    ·
      have h19 : hashOf x.k = hashOf key := (by have := h8; omega)
      rw [if_pos h19] at hst
      refine RC.region rfl ?_
      refine RL.ev (.move rfl) rfl rfl ?_
      refine RL.ev (.as (.bin rfl rfl rfl) (wi64 (y := ((n + 1 : Nat) : Int)) (by omega) (by omega))) rfl rfl ?_
      refine RL.ev (.assign rfl) rfl rfl ?_
      refine RL.nil (RC.back ?_)
      refine RC.region rfl ?_
      refine RL.ev (.as (.bin rfl rfl rfl) (wi64 (y := ((i + 1 : Nat) : Int)) (by omega) (by omega))) rfl rfl ?_
      refine RL.ev (.move rfl) rfl rfl ?_
      exact RL.nil (fun a ka => ⟨(i + 1, n + 1), ⟨⟨by omega, by show n + 1 = crowdL (l.take (i + 1)) key; omega⟩, S⟩, by omega, ka.keep (keep_of (by repeat (first | exact trivial | refine And.intro rfl ?_)))⟩)
    ·
      have h19 : ¬ hashOf x.k = hashOf key := (by have := h8; omega)
      rw [if_neg h19] at hst
      refine RC.skip (RC.back ?_)
      refine RC.region rfl ?_
      refine RL.ev (.as (.bin rfl rfl rfl) (wi64 (y := ((i + 1 : Nat) : Int)) (by omega) (by omega))) rfl rfl ?_
      refine RL.ev (.move rfl) rfl rfl ?_
      exact RL.nil (fun a ka => ⟨(i + 1, n), ⟨⟨by omega, by show n = crowdL (l.take (i + 1)) key; omega⟩, S⟩, by omega, ka.keep (keep_of (by repeat (first | exact trivial | refine And.intro rfl ?_)))⟩)
  ·
    obtain rfl : i = l.length := (by omega)
    rw [List.take_length] at hn
    refine RC.exit rfl (RC.back ?_)
    refine RC.seq ?_
    refine RC.region rfl ?_
    refine RL.ev (.move rfl) rfl rfl ?_
    refine RL.ev (.assign rfl) rfl rfl ?_
    refine RL.nil (RC.back ?_)
    refine RC.done (rs := [.tmp 4]) (vs := [_]) rfl rfl ⟨rfl, trivial⟩ ?_
    -- end 1
    rw [← hn]
    exact ⟨rfl, S⟩
theorem chain_srt (l : List It) : (∀ i x y, l[i]? = some x → l[i + 1]? = some y → upB x y = true) ↔ Srt l := by
  rw [srt_iff]
  constructor
  · intro h i hi
    obtain ⟨x, hx⟩ := getSome (l := l) (i := i) (by omega)
    obtain ⟨y, hy⟩ := getSome (l := l) (i := i + 1) hi
    rw [kAt_get hx, kAt_get hy]
    exact of_decide_eq_true (h i x y hx hy)
  · intro h i x y hx hy
    have := h i (lt_of_get hy)
    rw [kAt_get hx, kAt_get hy] at this
    exact decide_eq_true this
theorem rightM_iff (m : Mo) : rightM m ↔ (∀ i x y, m.heap[i]? = some x → m.heap[i + 1]? = some y → ¬ lessP y x) ∧ (∀ x ∈ m.tab, crowdL m.tab x.k ≤ 9) ∧ ((∀ x ∈ m.map, inK x) ∧ m.map.length ≤ 200) ∧ ((∀ x ∈ m.tab, inK x) ∧ m.tab.length ≤ 200) ∧ ((∀ x ∈ m.heap, inK x) ∧ m.heap.length ≤ 200) ∧ m.row.length ≤ 200 ∧ Srt m.map ∧ Srt m.tab := by
  unfold rightM keysP
  rw [chain_srt, chain_srt]
  constructor
  · rintro ⟨⟨a1, a2, a3⟩, ⟨b1, b2, b3⟩, c, d, e1, e2, e3⟩
    exact ⟨fun i x y hx hy => of_decide_eq_true (e2 i x y hx hy), c, ⟨a1, a3⟩, ⟨b1, b3⟩, ⟨e1, e3⟩, d, a2, b2⟩
  · rintro ⟨e2, c, ⟨a1, a3⟩, ⟨b1, b3⟩, ⟨e1, e3⟩, d, a2, b2⟩
    exact ⟨⟨a1, a2, a3⟩, ⟨b1, b2, b3⟩, c, d, e1, fun i x y hx hy => decide_eq_true (e2 i x y hx hy), e3⟩
end Go.Proofs.Ytlhnnleaiinjaaa
set_option linter.unusedVariables false
set_option linter.unusedSimpArgs false
namespace Go.Proofs.Ytlhnnleaiinjaaa
open Go Go.XL
def layF : Nat → List Node → Nat → List It → List Node × Int
  | 0, ns, _, _ => (ns, 0)
  | k + 1, ns, at_, l => if topL l < 0 then (ns, 0) else
    ((layF k (layF k ns (at_ + 1) (l.take (topL l).toNat)).1 (at_ + 1 + (topL l).toNat) (l.drop ((topL l).toNat + 1))).1.set at_
      (tNode 0 (l.getD (topL l).toNat it0).k (l.getD (topL l).toNat it0).v l.length (layF k ns (at_ + 1) (l.take (topL l).toNat)).2 (layF k (layF k ns (at_ + 1) (l.take (topL l).toNat)).1 (at_ + 1 + (topL l).toNat) (l.drop ((topL l).toNat + 1))).2), (at_ : Int) + 1)
def buildA (size : Nat) (l : List It) : Ar := ⟨(layF (l.length + 1) (List.replicate size (bareN 0)) 0 l).1, freeB size (size - l.length)⟩
end Go.Proofs.Ytlhnnleaiinjaaa
set_option linter.unusedVariables false
set_option linter.unusedSimpArgs false
namespace Go.Proofs.Ytlhnnleaiinjaaa
open Go Go.XL
theorem Ft.has {w : World} {b : Nat} {cs : List Value} {e : TypeId} (h : Has w b cs e) : Ft (· = b) (fun u => Has u b cs e) w := ⟨fun k e => e ▸ h.lt, fun u a => h.step a (fun hn => hn rfl)⟩
end Go.Proofs.Ytlhnnleaiinjaaa
set_option linter.unusedVariables false
set_option linter.unusedSimpArgs false
namespace Go.Proofs.Ytlhnnleaiinjaaa
open Go Go.XL
/-- is a key there? -/
def hasK (l : List It) (key : Int) : Bool := l.any fun x => decide (x.k = key)
theorem hasK_iff {l : List It} {key : Int} : hasK l key = true ↔ ∃ y ∈ l, y.k = key := by simp [hasK]
theorem hasK_no {l : List It} {key : Int} (h : ∀ y ∈ l, ¬ y.k = key) : hasK l key = false := by
  rw [Bool.eq_false_iff]; intro e; obtain ⟨y, hy, e⟩ := hasK_iff.1 e; exact h y hy e
end Go.Proofs.Ytlhnnleaiinjaaa
set_option linter.unusedVariables false
set_option linter.unusedSimpArgs false
namespace Go.Proofs.Ytlhnnleaiinjaaa
open Go Go.XL
def szF (A : Ar) (a b : Int) : Int := IntKind.i64.wrap (IntKind.i64.wrap (1 + sizeA A a) + sizeA A b)
def mkN (A : Ar) (n v a b : Int) : Node := tNode 0 n v (szF A a b) a b
/-- one node is made -/
def Mk (s : St) (n v a b : Int) (s' : St) (r : Int) : Prop :=
  (¬ s.2 = 0 ∧ s' = s ∧ r = 0) ∨ (s.2 = 0 ∧ mayMake s.1 (mkN s.1 n v a b) ∧ 0 < s.1.free.length ∧ s' = (makeA s.1 (mkN s.1 n v a b), 0) ∧ r = makeR s.1) ∨
  (s.2 = 0 ∧ mayMake s.1 (mkN s.1 n v a b) ∧ s.1.free.length = 0 ∧ s' = (s.1, 2) ∧ r = 0) ∨ (s.2 = 0 ∧ ¬ mayMake s.1 (mkN s.1 n v a b) ∧ s' = (s.1, 1) ∧ r = 0)
theorem IsT.right {A : Ar} {r : Int} {L : List It} (h : IsT A r L) : rightR r = true := by
  cases h with
  | nil => exact (rightR_iff 0).2 (.inl rfl)
  | node h1 =>
    have h2 := (getA_rng h1).1
    refine Classical.byContradiction fun e => ?_
    rw [placeR_not (fun hn : nodeR r => e hn.2)] at h2
    omega
theorem Mk.gs {s s' : St} {n v a b r : Int} (h : Mk s n v a b s' r) (hA : AOk s.1) (hk : s.2 = 0 → rightR a = true ∧ rightR b = true) : Gs 1 s s' := by
  have hmay : s.2 = 0 → mayMake s.1 (mkN s.1 n v a b) := fun h0 => by
    obtain ⟨h1, h2⟩ := hk h0
    refine ⟨hA, Int.le_refl 1, (by decide : (1 : Int) ≤ 100), ?_⟩
    have h3 : rightR 0 = true := (rightR_iff 0).2 (.inl rfl)
    rw [well_iff]
    refine ⟨by simp [x0, mkN, tNode], ?_⟩
    simp [x0, mkN, tNode, Node.kids, h1, h2, h3]
  rcases h with ⟨h0, rfl, rfl⟩ | ⟨h0, hm, hf, rfl, rfl⟩ | ⟨h0, hm, hf, rfl, rfl⟩ | ⟨h0, hm, rfl, rfl⟩
  · exact (Gs.refl hA).mono (by omega)
  · refine ⟨make_ext hA hf, make_ok hm hf, ?_, fun e => absurd h0 e, fun _ e => absurd rfl e⟩
    simp only [makeA, List.length_take]; omega
  · exact ⟨Ext.refl _, hA, by omega, fun e => absurd h0 e, fun _ _ => ⟨rfl, by omega⟩⟩
  · exact absurd (hmay h0) hm
theorem Mk.u64 {s s' : St} {n v a b r : Int} (h : Mk s n v a b s' r) : U64 r := by
  rcases h with ⟨_, _, rfl⟩ | ⟨_, hm, hf, _, rfl⟩ | ⟨_, _, _, _, rfl⟩ | ⟨_, _, _, rfl⟩
  · unfold U64; decide
  · exact ofR_U64 (make_isR hm.1 hf)
  · unfold U64; decide
  · unfold U64; decide
def ltL (key : Int) (L : List It) : List It := L.filter fun x => decide (x.k < key)
def gtL (key : Int) (L : List It) : List It := L.filter fun x => decide (key < x.k)
def putL (L : List It) (key v : Int) : List It := ltL key L ++ ⟨key, v⟩ :: gtL key L
def delL (L : List It) (key : Int) : List It := L.filter fun x => decide (¬ x.k = key)
theorem filter_sub {p : It → Bool} {L : List It} {y : It} (h : y ∈ L.filter p) : y ∈ L := (List.mem_filter.1 h).1
theorem filter_all {p : It → Bool} {L : List It} (h : ∀ y ∈ L, p y = true) : L.filter p = L := List.filter_eq_self.2 h
theorem filter_none {p : It → Bool} {L : List It} (h : ∀ y ∈ L, p y = false) : L.filter p = [] := List.filter_eq_nil_iff.2 fun y hy => by rw [h y hy]; simp
section
variable {L R : List It} {it : It} {key v : Int}
theorem ltL_ge (h : Srt (L ++ it :: R)) (q : ¬ it.k < key) : ltL key (L ++ it :: R) = ltL key L := by
  unfold ltL
  rw [List.filter_append, List.filter_cons, if_neg (by simpa using q), filter_none (L := R), List.append_nil]
  intro y hy; have := h.split.2.2.2 y hy; simp; omega
theorem gtL_le (h : Srt (L ++ it :: R)) (q : ¬ key < it.k) : gtL key (L ++ it :: R) = gtL key R := by
  unfold gtL
  rw [List.filter_append, List.filter_cons, if_neg (by simp; omega), filter_none (L := L), List.nil_append]
  intro y hy; have := h.split.2.2.1 y hy; simp; omega
theorem putL_eq (h : Srt (L ++ it :: R)) (q : it.k = key) : putL (L ++ it :: R) key v = L ++ ⟨key, v⟩ :: R := by
  unfold putL
  rw [ltL_ge h (by omega), gtL_le h (by omega)]
  have h1 : ltL key L = L := filter_all fun y hy => by have := h.split.2.2.1 y hy; simp; omega
  have h2 : gtL key R = R := filter_all fun y hy => by have := h.split.2.2.2 y hy; simp; omega
  rw [h1, h2]
theorem delL_eq (h : Srt (L ++ it :: R)) (q : it.k = key) : delL (L ++ it :: R) key = L ++ R := by
  unfold delL
  rw [List.filter_append, List.filter_cons, if_neg (by simpa using q), filter_all, filter_all]
  · intro y hy; have := h.split.2.2.2 y hy; simp; omega
  · intro y hy; have := h.split.2.2.1 y hy; simp; omega
theorem Srt.sub {p : It → Bool} (h : Srt L) : Srt (L.filter p) := List.Pairwise.filter _ h
theorem Srt.put (h : Srt L) : Srt (putL L key v) := by
  unfold putL
  refine Srt.join h.sub h.sub (fun y hy => ?_) (fun y hy => ?_)
  · have := (List.mem_filter.1 hy).2; simpa using this
  · have := (List.mem_filter.1 hy).2; simpa using this
theorem putL_mem {y : It} (h : y ∈ putL L key v) : y = ⟨key, v⟩ ∨ y ∈ L := by
  unfold putL at h
  rcases List.mem_append.1 h with h | h
  · exact .inr (filter_sub h)
  · rcases List.mem_cons.1 h with h | h
    · exact .inl h
    · exact .inr (filter_sub h)
theorem putR_putL (h : Srt L) : putR L key v = putL L key v := putR_srt h key v
end
end Go.Proofs.Ytlhnnleaiinjaaa
set_option linter.unusedVariables false
set_option linter.unusedSimpArgs false
namespace Go.Proofs.Ytlhnnleaiinjaaa
open Go Go.XL
structure ResT where
  e : Int
  a : Int
  b : Int
  deriving DecidableEq
def ResT.cells (r : ResT) : List Value := [.int .i64 r.e, .int .i64 r.a, .int .i64 r.b]
def valAt (l : List It) (n : Nat) : It := l.getD n it0
def pairsM (l : List It) (o : OpT) : List It × ResT :=
  let n := (ltL o.a l).length
  let is := hasK l o.a
  if o.kind = 6 then (l, ⟨0, l.length, 0⟩)
  else if o.kind = 2 then
    if is = false ∧ (200 ≤ l.length ∨ o.box = 2 ∧ 9 ≤ crowdL l o.a) then (l, ⟨5, 0, 0⟩)
    else (putL l o.a o.b, if is then ⟨0, 1, (valAt l n).v⟩ else ⟨0, 0, 0⟩)
  else if o.kind = 4 then
    if (if is then n + 1 else n) = 0 then (l, ⟨3, 0, 0⟩)
    else (l, ⟨0, (valAt l ((if is then n + 1 else n) - 1)).k, (valAt l ((if is then n + 1 else n) - 1)).v⟩)
  else if o.kind = 5 then (l, ⟨0, n, 0⟩)
  else if is = false then (l, ⟨3, 0, 0⟩)
  else (if o.kind = 3 then delL l o.a else l, ⟨0, (valAt l n).v, 0⟩)
theorem valAt_get {l : List It} {n : Nat} {x : It} (h : l[n]? = some x) : valAt l n = x := by rw [valAt, List.getD_eq_getElem?_getD, h]; rfl
/-- a row that is parted at a place -/
theorem part_lt {l : List It} {n : Nat} {key : Int} (hn : n ≤ l.length) (h1 : ∀ k x, k < n → l[k]? = some x → x.k < key) (h2 : ∀ k x, n ≤ k → l[k]? = some x → ¬ x.k < key) : ltL key l = l.take n ∧ (ltL key l).length = n := by
  have e : ltL key l = l.take n := by
    unfold ltL
    conv => lhs; rw [← List.take_append_drop n l]
    rw [List.filter_append, filter_all, filter_none, List.append_nil]
    · intro y hy
      obtain ⟨j, hj⟩ := List.getElem?_of_mem hy
      rw [List.getElem?_drop] at hj
      exact decide_eq_false (h2 _ y (by omega) hj)
    · intro y hy
      obtain ⟨j, hj⟩ := List.getElem?_of_mem hy
      have hjl := lt_of_get hj
      rw [List.length_take] at hjl
      rw [List.getElem?_take_of_lt (by omega)] at hj
      exact decide_eq_true (h1 j y (by omega) hj)
  exact ⟨e, by rw [e, List.length_take]; omega⟩
theorem srt_get {l : List It} (hs : Srt l) {i j : Nat} {x y : It} (hij : i < j) (hx : l[i]? = some x) (hy : l[j]? = some y) : x.k < y.k := by
  have := List.pairwise_iff_getElem.1 hs i j (lt_of_get hx) (lt_of_get hy) hij
  rw [getElem_of hx, getElem_of hy] at this
  exact this
/-- the key is at the place, or nowhere -/
theorem part_has {l : List It} (hs : Srt l) {n : Nat} {key : Int} (hn : n = (ltL key l).length) : (hasK l key = true ↔ ∃ x, l[n]? = some x ∧ x.k = key) ∧ (∀ k x, k < n → l[k]? = some x → x.k < key) ∧ (∀ k x, n ≤ k → l[k]? = some x → ¬ x.k < key) ∧ n ≤ l.length := by
  have hle : n ≤ l.length := by rw [hn]; exact List.length_filter_le _ _
  have key1 : ∀ k x, l[k]? = some x → (x.k < key ↔ k < n) := by
    -- the row is some below the key, then some that are not
    obtain ⟨m, hm, h1, h2⟩ : ∃ m, m ≤ l.length ∧ (∀ k x, k < m → l[k]? = some x → x.k < key) ∧ (∀ k x, m ≤ k → l[k]? = some x → ¬ x.k < key) := by
      clear hn hle
      have aux : ∀ m, m ≤ l.length → (∀ k x, k < m → l[k]? = some x → x.k < key) → ∃ m, m ≤ l.length ∧ (∀ k x, k < m → l[k]? = some x → x.k < key) ∧ (∀ k x, m ≤ k → l[k]? = some x → ¬ x.k < key) := by
        intro m
        induction hd : l.length - m generalizing m with
        | zero => intro hm h; exact ⟨m, hm, h, fun k x hk hx => absurd (lt_of_get hx) (by omega)⟩
        | succ d ih =>
          intro hm h
          obtain ⟨y, hy⟩ := getSome (l := l) (i := m) (by omega)
          by_cases q : y.k < key
          · refine ih (m + 1) (by omega) (by omega) (fun k x hk hx => ?_)
            rcases Nat.lt_or_ge k m with g | g
            · exact h k x g hx
            · obtain rfl : k = m := by omega
              rw [hy] at hx; cases hx; exact q
          · refine ⟨m, hm, h, fun k x hk hx hlt => ?_⟩
            rcases Nat.lt_or_ge m k with g | g
            · have := srt_get hs g hy hx; omega
            · obtain rfl : k = m := by omega
              rw [hy] at hx; cases hx; exact q hlt
      exact aux 0 (Nat.zero_le _) (fun k x hk => absurd hk (Nat.not_lt_zero _))
    have := (part_lt hm h1 h2).2
    rw [← hn] at this
    subst this
    intro k x hx
    exact ⟨fun h => by rcases Nat.lt_or_ge k n with g | g; exact g; exact absurd h (h2 k x g hx), fun h => h1 k x h hx⟩
  refine ⟨⟨fun h => ?_, fun ⟨x, hx, e⟩ => hasK_iff.2 ⟨x, List.mem_of_getElem? hx, e⟩⟩, fun k x hk hx => (key1 k x hx).2 hk, fun k x hk hx h => absurd ((key1 k x hx).1 h) (by omega), hle⟩
  obtain ⟨y, hy, e⟩ := hasK_iff.1 h
  obtain ⟨j, hj⟩ := List.getElem?_of_mem hy
  have h1 : n ≤ j := by
    rcases Nat.lt_or_ge j n with g | g
    · have := (key1 j y hj).2 g; omega
    · exact g
  rcases Nat.lt_or_ge n j with g | g
  · obtain ⟨x, hx⟩ := getSome (l := l) (i := n) (by have := lt_of_get hj; omega)
    have h2 := srt_get hs g hx hj
    exact absurd ((key1 n x hx).1 (by omega)) (by omega)
  · obtain rfl : j = n := by omega
    exact ⟨y, hj, e⟩
theorem split_get {l : List It} {n : Nat} {x : It} (h : l[n]? = some x) : l = l.take n ++ x :: l.drop (n + 1) := by
  have := List.getElem?_eq_some_iff.1 h
  obtain ⟨hl, e⟩ := this
  rw [← e, List.getElem_cons_drop, List.take_append_drop]
theorem put_has {l : List It} (hs : Srt l) {n : Nat} {x : It} {key v : Int} (h : l[n]? = some x) (e : x.k = key) : putL l key v = l.take n ++ ⟨key, v⟩ :: l.drop (n + 1) := by
  have h1 := split_get h
  rw [h1] at hs
  conv => lhs; rw [h1]
  exact putL_eq hs e
theorem del_has {l : List It} (hs : Srt l) {n : Nat} {x : It} {key : Int} (h : l[n]? = some x) (e : x.k = key) : delL l key = l.take n ++ l.drop (n + 1) := by
  have h1 := split_get h
  rw [h1] at hs
  conv => lhs; rw [h1]
  exact delL_eq hs e
theorem put_no {l : List It} (hs : Srt l) {n : Nat} {key v : Int} (hn : n = (ltL key l).length) (h : hasK l key = false) : putL l key v = l.take n ++ ⟨key, v⟩ :: l.drop n := by
  obtain ⟨g0, g1, g2, g3⟩ := part_has hs hn
  have e1 := (part_lt g3 g1 g2).1
  have e2 : gtL key l = l.drop n := by
    unfold gtL
    conv => lhs; rw [← List.take_append_drop n l]
    rw [List.filter_append, filter_none, filter_all, List.nil_append]
    · intro y hy
      obtain ⟨j, hj⟩ := List.getElem?_of_mem hy
      rw [List.getElem?_drop] at hj
      have := g2 _ y (by omega) hj
      have hne : ¬ y.k = key := fun e => by
        rw [hasK_iff.2 ⟨y, List.mem_of_mem_drop hy, e⟩] at h; cases h
      exact decide_eq_true (by omega)
    · intro y hy
      obtain ⟨j, hj⟩ := List.getElem?_of_mem hy
      have hjl := lt_of_get hj
      rw [List.length_take] at hjl
      rw [List.getElem?_take_of_lt (by omega)] at hj
      have := g1 j y (by omega) hj
      exact decide_eq_false (by omega)
  unfold putL
  rw [e1, e2]
end Go.Proofs.Ytlhnnleaiinjaaa
set_option linter.unusedVariables false
set_option linter.unusedSimpArgs false
namespace Go.Proofs.Ytlhnnleaiinjaaa
open Go Go.XL
/-- a loop's record lies in the heap -/
def Lp (l : Nat) (r : Loop) (w : World) : Prop := w.heap[l]? = some (.loop r)
theorem Lp.lt {l r w} (h : Lp l r w) : l < w.heap.size := by
  unfold Lp at h
  rcases Nat.lt_or_ge l w.heap.size with q | q
  · exact q
  · rw [Array.getElem?_eq_none q] at h; cases h
theorem Lp.step {N : Nat → Prop} {l r w w'} (h : Lp l r w) (k : Agr N w w') (hn : ¬ N l) : Lp l r w' := (k.block l h.lt hn).trans h
theorem Lp.sub {l r w w'} (h : Lp l r w) (s : Sub w w') : Lp l r w' := (s.block l h.lt).trans h
theorem Lp.upd {l r w w' b} (h : Lp l r w) (a : Agr (· = b) w w') (hn : l ≠ b) : Lp l r w' := h.step a hn
theorem Lp.ne {l r w b} (h : Lp l r w) (hb : b = w.heap.size) : l ≠ b := fun e => by have := h.lt; omega
theorem Lp.put {l r r' w} (h : Lp l r w) : Lp l r' (w.putObj l (.loop r')) := World.putObj_heap_same h.lt
theorem agr_put {l : Nat} {o : Obj} {w : World} : Agr (· = l) w (w.putObj l o) := ⟨rfl, rfl, rfl, by simp, fun k _ hn => World.putObj_heap_other hn⟩

section
variable {P : Program} {n : Cx} {F : (List (Nat × Value))} {w : World} {p : Post} {ops : Array Oper} {rest : List Oper} {d : Option Tmp} {t : TypeId} {pos : String} {af : Array Edge} {g : Option (Nat × Bool)}
/-- what a call of yield comes to -/
def FY (P : Program) (l : Nat) (args : List Value) (w : World) (R : Value → World → Prop) : Prop :=
  ∃ r : Loop, Lp l r w ∧ args.length = r.params.size ∧ RoundIn Fence.wide 0 P l r.fn ((r.params.zip args.toArray).foldl (fun tmps (t, a) => tmps.setIfInBounds t a) r.tmps) r.assign r.body w (fun e w' => ∃ v, e = .returned v ∧ R v w')
theorem FY.mono {l : Nat} {args : List Value} {R R' : Value → World → Prop} (h : FY P l args w R) (hr : ∀ v w', R v w' → R' v w') : FY P l args w R' := by
  obtain ⟨r, h1, h2, h3⟩ := h
  exact ⟨r, h1, h2, h3.mono fun e w' ⟨v, e1, e2⟩ => ⟨v, e1, hr v w' e2⟩⟩
theorem RL.yield {l : Nat} {y : Operand} {xs : List Operand} {vs : List Value} {ts : Array TypeId} (hy : XL.ev F y = some (.func (.yield l) #[] #[])) (hx : evs F xs = some vs) {R : Value → World → Prop} (hc : FY P l vs w R) (hg : gsat ops F g = some true) (hd : inB d n = true)
    (h : ∀ v w', R v w' → RL P n ops rest (upd F d v) w' p) (hq : n.round = some none := by rfl) : RL P n ops (⟨d, .call ⟨.value y, xs.toArray, ts⟩, t, pos, af, g⟩ :: rest) F w p := by
  intro a k
  obtain ⟨r, h1, h2, h3⟩ := hc
  have he : (execOp a.eval ⟨d, .call ⟨.value y, xs.toArray, ts⟩, t, pos, af, g⟩).run P w = .ok (.round l r.fn ((r.params.zip vs.toArray).foldl (fun tmps (t, a) => tmps.setIfInBounds t a) r.tmps) r.assign r.body) w := by
    have hρ := k.agrees
    simp only [execOp, resolve, hρ y _ hy, Deferred.ofValue, evs_arr hρ hx, bind, Sem.bind, pure, invoke, Array.append_empty, Array.empty_append]
    exact run_yield h1 (by simpa using h2)
  rw [lwp_some hq]
  simp only [wpListIn]
  rw [wanted_of k hg, if_pos rfl]
  refine ⟨fun _ _ => trivial, ?_⟩
  rw [Oper.semAt_eq _ _ _ (not_defer he (fun _ e => by cases e)), he]
  refine ⟨fun e => (by cases e), ?_⟩
  refine RoundIn.mono h3 ?_
  rintro e w' ⟨v, rfl, hR⟩
  have := h v w' hR _ (k.upd d v hd)
  rwa [lwp_some hq] at this

/-- the mark of a range's block -/
def markD (D : Nat) : Deferred := { target := .collected D, args := #[] }
def endR (l : Nat) (j : Option Code) (R : Value → World → Prop) (a : Act) (w : World) : Prop := ∃ r, Lp l r w ∧ R (.bool j.isNone) (w.putObj l (.loop { r with state := if j.isNone then .ready else .done, pending := j }))
def roundP (l : Nat) (R : Value → World → Prop) (ids : List Nat) : Post := ⟨endR l none R, ids.map fun id => (id, endR l (some (.exit id)) R), endR l (some .ret) R⟩
def assignP (P : Program) (l : Nat) (r : Loop) (R : Value → World → Prop) (m : Nat) (ids : List Nat) : Post :=
  ⟨fun a1 w1 => Lp l r w1 ∧ ∀ w2, Agr (· = l) w1 w2 → w2.heap.size = w1.heap.size → Lp l { r with state := .busy } w2 → cwp ⟨m, some (some l), []⟩ P r.body (roundP l R ids).q a1 w2, [], fun _ _ => False⟩
theorem lookX_ids {l : Nat} {R : Value → World → Prop} {i : Nat} {K : Act → World → Prop} : ∀ {ids : List Nat}, lookX (ids.map fun id => (id, endR l (some (.exit id)) R)) i = some K → K = endR l (some (.exit i)) R
  | [], h => by cases h
  | j :: ids, h => by
    simp only [List.map_cons, lookX_cons] at h
    split at h
    · rename_i e; subst e; exact (Option.some.inj h).symm
    · exact lookX_ids h
theorem FY.intro {l m : Nat} {r : Loop} {args : List Value} {R : Value → World → Prop} {F : List (Nat × Value)} (ids : List Nat) (hl : Lp l r w) (hs : r.state = .ready) (hz : args.length = r.params.size)
    (hk : Knows ⟨m, some (some l), []⟩ F { tmps := (r.params.zip args.toArray).foldl (fun tmps (t, a) => tmps.setIfInBounds t a) r.tmps, defers := [] })
    (h : RC P ⟨m, some (some l), []⟩ r.assign F w (assignP P l r R m ids)) : FY P l args w R := by
  refine ⟨r, hl, hz, roundIn_of_wpIn trivial ?_⟩
  have key := h _ hk
  rw [cwp_some rfl] at key
  refine wpIn_mono key fun e a1 w1 hq => ?_
  cases e with
  | normal =>
    obtain ⟨h1, h2⟩ := hq
    refine ⟨_, run_beginRound h1 hs, ?_⟩
    have h3 := h2 _ agr_put (by simp) h1.put
    rw [cwp_some rfl] at h3
    refine wpIn_mono h3 fun e a w hq => ?_
    cases e with
    | normal =>
      obtain ⟨r', h4, h5⟩ := hq
      exact ⟨_, _, run_endRound none h4, _, rfl, h5⟩
    | ret =>
      obtain ⟨r', h4, h5⟩ := hq
      exact ⟨_, _, run_endRound (some .ret) h4, _, rfl, h5⟩
    | exit i =>
      simp only [Post.q] at hq
      split at hq
      · rename_i K hK
        rw [lookX_ids hK] at hq
        obtain ⟨r', h4, h5⟩ := hq
        exact ⟨_, _, run_endRound (some (.exit i)) h4, _, rfl, h5⟩
      · exact hq.elim
    | goto _ => exact hq.elim
    | panic _ => exact hq.elim
    | outgrown => exact hq.elim
  | exit i =>
    simp only [Post.q, assignP, lookX] at hq
  | ret => exact hq.elim
  | goto _ => exact hq.elim
  | panic _ => exact hq.elim
  | outgrown => exact hq.elim
attribute [irreducible] endR
def Df (D : Nat) (w : World) : Prop := w.heap[D]? = some (.deferred (some []))
theorem RC.range {id m gf : Nat} {g : Operand} {ps : Array Tmp} {assign body : Code} {cs : List Value} {F : List (Nat × Value)} (hg : XL.ev F g = some (.func (.func gf) #[] cs.toArray)) (hf : calleeOK P gf = true)
    (h : ∀ (r : Loop) (W1 : World), r.state = .ready → r.pending = none → r.params = ps → r.assign = assign → r.body = body → Knows ⟨m, some (some (w.heap.size + 1)), []⟩ F { tmps := r.tmps, defers := [] } → Sub w W1 → W1.heap.size = w.heap.size + 2 → Lp (w.heap.size + 1) r W1 → Df w.heap.size W1 →
      FC P gf (.func (.yield (w.heap.size + 1)) #[] #[] :: cs) W1 (fun _ W2 => ∃ r2, Lp (w.heap.size + 1) r2 W2 ∧ r2.state ≠ .busy ∧ ∀ W3, Agr (· = w.heap.size + 1) W2 W3 → W3.heap.size = W2.heap.size →
        ((r2.pending = none ∨ r2.pending = some (.exit id)) ∧ (∀ a, Knows ⟨m, some none, [markD w.heap.size]⟩ F a → p.nrm a W3) ∨ r2.pending = some .ret ∧ ∀ a, Knows ⟨m, some none, [markD w.heap.size]⟩ F a → p.ret a W3))) :
    RC P ⟨m, some none, []⟩ (.block id (.rangeFunc g ps assign body)) F w p := by
  intro a k
  rw [cwp_some rfl]
  refine wpIn_block (wpIn_rangeFunc ?_)
  intro fn _
  obtain ⟨r, hr⟩ : ∃ r : Loop, r = { state := .ready, pending := none, fn, tmps := a.tmps, params := ps, assign, body, defers := w.heap.size } := ⟨_, rfl⟩
  obtain ⟨W1, hW1⟩ : ∃ W1, W1 = (w.alloc (.deferred (some []))).alloc (.loop r) := ⟨_, rfl⟩
  have hL1 : Lp (w.heap.size + 1) r W1 := by
    have := World.alloc_heap_new (w.alloc (.deferred (some []))) (.loop r)
    rw [World.size_alloc] at this
    rw [hW1]; exact this
  have hD1 : Df w.heap.size W1 := by
    rw [hW1]
    have := World.alloc_heap_new w (.deferred (some []))
    unfold Df
    rw [heap_alloc_old' _ _ (by simp)]
    exact this
  have hS1 : Sub w W1 := by
    rw [hW1]
    exact ⟨rfl, rfl, rfl, by simp; omega, fun k hk => by rw [heap_alloc_old' _ _ (by simp; omega), heap_alloc_old' _ _ hk]⟩
  have hz1 : W1.heap.size = w.heap.size + 2 := by rw [hW1]; simp
  have hga : a.eval g = .func (.func gf) #[] cs.toArray := k.agrees _ _ hg
  refine ⟨w.heap.size + 1, [markD w.heap.size], W1, { target := .fn (.func gf) cs.toArray, args := #[.func (.yield (w.heap.size + 1)) #[] #[]] }, W1, gf, #[.func (.yield (w.heap.size + 1)) #[] #[]] ++ cs.toArray, W1, ?_, ?_, fun _ _ => trivial, ?_, fun e => (by cases e), ?_⟩
  · rw [hW1, hr]; exact run_enterLoop_outer _ _ _ _ _
  · simp only [resolve, hga]
    simp [go_sem]
  · simp only [invoke]
    exact run_callFunc hf
  · have hk1 : Knows ⟨m, some (some (w.heap.size + 1)), []⟩ F { tmps := r.tmps, defers := [] } := by
      rw [hr]; exact ⟨k.size, rfl, k.slot⟩
    have hc := h r W1 (by rw [hr]) (by rw [hr]) (by rw [hr]) (by rw [hr]) (by rw [hr]) hk1 hS1 hz1 hL1 hD1
    unfold FC at hc
    rw [List.toArray_cons] at hc
    refine CallsIn.mono (callsIn_wide.2 hc) ?_
    rintro e W2 ⟨v, rfl, r2, h1, h2, h3⟩
    refine ⟨_, _, run_endLoop h1 h2, ?_⟩
    have h4 := h3 (W2.putObj (w.heap.size + 1) (.loop { r2 with state := .exhausted })) agr_put (by simp)
    generalize W2.putObj (w.heap.size + 1) (.loop { r2 with state := .exhausted }) = W3 at h4 ⊢
    have hk3 : Knows ⟨m, some none, [markD w.heap.size]⟩ F { a with defers := [markD w.heap.size] ++ a.defers } := ⟨k.size, by simp [k.defers], k.slot⟩
    rcases h4 with ⟨h4 | h4, h5⟩ | ⟨h4, h5⟩
    · rw [h4]
      exact h5 _ hk3
    · rw [h4]
      refine wpIn_exit ?_
      simp only [Exit.inBlock, if_pos]
      exact h5 _ hk3
    · rw [h4]
      exact wpIn_ret (h5 _ hk3)
theorem Df.lt {D w} (h : Df D w) : D < w.heap.size := by
  unfold Df at h
  rcases Nat.lt_or_ge D w.heap.size with q | q
  · exact q
  · rw [Array.getElem?_eq_none q] at h; cases h
theorem Df.step {N : Nat → Prop} {D w w'} (h : Df D w) (k : Agr N w w') (hn : ¬ N D) : Df D w' := (k.block D h.lt hn).trans h
theorem Df.sub {D w w'} (h : Df D w) (s : Sub w w') : Df D w' := (s.block D h.lt).trans h
theorem Df.upd {D w w' b} (h : Df D w) (a : Agr (· = b) w w') (hn : D ≠ b) : Df D w' := h.step a hn
theorem Df.ne {D w b} (h : Df D w) (hb : b = w.heap.size) : D ≠ b := fun e => by have := h.lt; omega

def Up (C : Nat → Prop) (w : World) (C' : Nat → Prop) : Prop := ∀ k, C' k → C k ∨ w.heap.size ≤ k
theorem Up.refl (C : Nat → Prop) (w : World) : Up C w C := fun _ h => .inl h
theorem Up.le {C C' : Nat → Prop} {w w1 : World} (h : Up C w1 C') (hz : w.heap.size ≤ w1.heap.size) : Up C w C' := fun k hk => (h k hk).imp id (Nat.le_trans hz)
theorem Up.trans {C C1 C2 : Nat → Prop} {w : World} (h : Up C w C1) (k : Up C1 w C2) : Up C w C2 := fun i hi => (k i hi).elim (h i) .inr
theorem Up.not {C C' : Nat → Prop} {w : World} {b : Nat} (h : Up C w C') (hb : b < w.heap.size) (hn : ¬ C b) : ¬ C' b := fun e => (h b e).elim hn (fun e => by omega)
theorem upNe {M M' : Nat → Prop} {w : World} {b : Nat} (h : Up M w M') (d : ∀ k, M k → k ≠ b) (hb : b < w.heap.size) : ∀ k, M' k → k ≠ b := fun k hk e => h.not hb (fun e' => d _ e' rfl) (e ▸ hk)
theorem upDD {M M' : Nat → Prop} {w : World} {v : Value} (h : Up M w M') (d : ∀ k, ob v = some k → M k → False) (hb : ∀ k, ob v = some k → k < w.heap.size) : ∀ k, ob v = some k → M' k → False := fun k hk => h.not (hb k hk) (d k hk)
end
end Go.Proofs.Ytlhnnleaiinjaaa
