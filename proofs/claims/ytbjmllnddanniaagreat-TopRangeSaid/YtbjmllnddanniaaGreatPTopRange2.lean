/-
  What the law TopRange leans on, part 2.
-/
import Derived.Test.YtbjmllnddanniaaGreatPTopRange1
set_option linter.unusedVariables false
set_option linter.unusedSimpArgs false
namespace Go.Proofs.YtbjmllnddanniaaGreat
open Go Go.XL
theorem wfI {a : Int} (h : (Lit.int .i64 a).wf = true) : I64 a := by
  simp [Lit.wf, IntKind.min, IntKind.max, IntKind.signed, IntKind.bits] at h
  unfold I64
  omega
theorem fitI {v : Value} (h : fitR (some .i64) v) : ∃ a, v = .int .i64 a ∧ I64 a := by
  obtain ⟨a, h1, h2⟩ := fitR_int h
  exact ⟨a, h1, wfI h2⟩
theorem fit_int (r : List Value) (h : fitsR [some .i64] r) : ∃ x : Int, r = [i6 x] ∧ I64 x := by
  obtain ⟨_, _, rfl, h0, h⟩ := fitsR_cons h
  obtain rfl := fitsR_nil h
  obtain ⟨a, rfl, g⟩ := fitI h0
  exact ⟨a, rfl, g⟩
end Go.Proofs.YtbjmllnddanniaaGreat
set_option linter.unusedVariables false
set_option linter.unusedSimpArgs false
namespace Go.Proofs.YtbjmllnddanniaaGreat
open Go Go.XL
structure Ft (M : Nat → Prop) (I : World → Prop) (w : World) : Prop where
  lt : ∀ k, M k → k < w.heap.size
  imm : ∀ w', Agr (fun k => ¬ M k) w w' → I w'
theorem Ft.now {M I w} (h : Ft M I w) : I w := h.imm w (Agr.refl _ _)
theorem Ft.step {M I w w'} {N : Nat → Prop} (h : Ft M I w) (a : Agr N w w') (hn : ∀ k, M k → ¬ N k) : Ft M I w' :=
  ⟨fun k hk => Nat.lt_of_lt_of_le (h.lt k hk) a.size, fun w'' a' => h.imm w'' ((a.mono fun k _ e hk => hn k hk e).trans a')⟩
theorem Ft.sub {M I w w'} (h : Ft M I w) (s : Sub w w') : Ft M I w' := h.step (N := fun _ => False) s.agr (fun _ _ e => e)
theorem Ft.updD {M I w w' b} (h : Ft M I w) (a : Agr (· = b) w w') (d : ∀ k, M k → k ≠ b) : Ft M I w' := h.step a d
theorem Ft.neNew {M I w b} (h : Ft M I w) (hb : b = w.heap.size) : ∀ k, M k → k ≠ b := fun k hk e => absurd (h.lt k hk) (by omega)
theorem Ft.ge {M I w} (h : Ft M I w) : ∀ k, M k → 0 ≤ k ∧ k < w.heap.size := fun k hk => ⟨Nat.zero_le _, h.lt k hk⟩
theorem Ft.imp {M} {I J : World → Prop} {w} (h : Ft M I w) (k : ∀ u, I u → J u) : Ft M J w := ⟨h.lt, fun w' a => k _ (h.imm w' a)⟩
theorem Ft.of_sub {I : World → Prop} {w} (h : ∀ u, Sub w u → I u) : Ft (· < w.heap.size) I w :=
  ⟨fun _ hk => hk, fun u a => h u ⟨a.os, a.tape, a.output, a.size, fun k hk => a.block k hk (fun hn => hn hk)⟩⟩
theorem obDF {w : World} {v v' : Value} {M : Nat → Prop} (h : ob v' = ob v ∨ ∃ c, ob v' = some c ∧ w.heap.size ≤ c) (d : ∀ k, ob v = some k → M k → False) (h2 : ∀ k, M k → k < w.heap.size) : ∀ k, ob v' = some k → M k → False := by
  intro k hk hk2
  rcases h with h | ⟨c, h1, h3⟩
  · exact d k (h ▸ hk) hk2
  · rw [h1] at hk; cases hk; have := h2 _ hk2; omega
/-- a call's answer: what was read, and new blocks -/
def Mnew (M : Nat → Prop) (w w' : World) : Nat → Prop := fun k => M k ∨ w.heap.size ≤ k ∧ k < w'.heap.size
theorem Ft.new {J : World → Prop} {w w'} (k : ∀ N : Nat → Prop, (∀ k, N k → k < w.heap.size) → Imm N J w') (s : Sub w w') : Ft (Mnew (fun _ => False) w w') J w' := by
  refine ⟨fun k hk => hk.elim False.elim (fun h' => h'.2), fun u a => ?_⟩
  refine k (fun k => k < w.heap.size) (fun k hk => hk) u (a.mono fun k hk e => ?_)
  exact Nat.lt_of_not_le fun h' => e (.inr ⟨h', hk⟩)
theorem agLe {N : Nat → Prop} {w0 w : World} {b : Nat} (h : Agr N w0 w) (e : b = w.heap.size) : w0.heap.size ≤ b := by rw [e]; exact h.size
theorem agNew {N : Nat → Prop} {w0 w w' : World} {b : Nat} (h : Agr N w0 w) (a : Agr (· = b) w w') (g : w0.heap.size ≤ b) : Agr N w0 w' :=
  ⟨a.os.trans h.os, a.tape.trans h.tape, a.output.trans h.output, Nat.le_trans h.size a.size, fun k hk hn => (a.block k (Nat.lt_of_lt_of_le hk h.size) (fun (e : k = b) => absurd hk (by omega))).trans (h.block k hk hn)⟩
theorem Ft.self {M : Nat → Prop} {I : World → Prop} {w : World} (h : Ft M I w) : Ft M (fun u => Ft M I u) w := ⟨h.lt, fun u a => h.step a (fun k hk hn => hn hk)⟩
theorem _root_.Go.XL.Has.ft {w : World} {b e : Nat} {cs : List Value} (h : Has w b cs e) : Ft (· = b) (fun u => Has u b cs e) w := ⟨fun k hk => hk ▸ h.lt, fun u a => h.step a (fun hn => hn rfl)⟩
theorem Ft.and {M M' : Nat → Prop} {I J : World → Prop} {w : World} (h : Ft M I w) (k : Ft M' J w) : Ft (fun x => M x ∨ M' x) (fun u => I u ∧ J u) w :=
  ⟨fun x hx => hx.elim (h.lt x) (k.lt x), fun u a => ⟨h.imm u (a.mono fun x _ e hx => e (.inl hx)), k.imm u (a.mono fun x _ e hx => e (.inr hx))⟩⟩
theorem _root_.Go.XL.Ows.ft {base e sz v rows} {w : World} (h : Ows base w e sz v rows) : Ft (fun k => ob v = some k) (fun u => Ows base u e sz v rows) w :=
  ⟨fun k hk => (h.ge k hk).2, fun u a => h.step a (fun k hk hn => hn hk)⟩
theorem _root_.Go.XL.Ows.low {base base' : Nat} {w : World} {e : TypeId} {sz : Nat} {v : Value} {rows : List (List Value)} (h : Ows base w e sz v rows) (hb : base' ≤ base) : Ows base' w e sz v rows := by
  obtain ⟨⟨h1, h2⟩, h3⟩ := h
  refine ⟨⟨h1, h2.imp id ?_⟩, h3⟩
  rintro ⟨b, cap, ex, e, hb2, rest⟩
  exact ⟨b, cap, ex, e, Nat.le_trans hb hb2, rest⟩
end Go.Proofs.YtbjmllnddanniaaGreat
set_option linter.unusedVariables false
set_option linter.unusedSimpArgs false
namespace Go.Proofs.YtbjmllnddanniaaGreat
open Go Go.XL
theorem getA_rng {A : Ar} {r : Int} {x : Node} (h : getA A r = some x) : 0 ≤ placeR r ∧ placeR r < A.nodes.length := by
  unfold getA at h
  split at h
  · cases h
  · split at h
    · cases h
    · rename_i y hy
      have := lt_of_get hy
      omega
theorem getA_nok {A : Ar} {r : Int} {x : Node} (h : getA A r = some x) : x ∈ A.nodes := by
  unfold getA at h
  split at h
  · cases h
  · split at h
    · cases h
    · rename_i y hy
      split at h
      · cases h
      · cases h; exact List.mem_of_getElem? hy
theorem getA_get {A : Ar} {r : Int} {x : Node} (h : getA A r = some x) : A.nodes[(placeR r).toNat]? = some x ∧ ¬ x.kind = 0 := by
  unfold getA at h
  split at h
  · cases h
  · split at h
    · cases h
    · rename_i y hy
      split at h
      · cases h
      · rename_i hn; cases h; exact ⟨hy, fun e => hn (.inl e)⟩
theorem placeR_not {r : Int} (h : ¬ nodeR r) : placeR r = -1 := if_neg h
theorem add_add (a : Addr) (i j : Nat) : (a.add i).add j = a.add (i + j) := by
  unfold Addr.add
  by_cases hi : i = 0
  · subst hi; simp
  · by_cases hj : j = 0
    · subst hj; simp
    · rw [if_neg hj, if_neg hi, if_neg (by omega), Nat.add_assoc]
theorem getV_form2 (A : Ar) (r : Int) : ∃ (y : Node) (e : Int), getV A r = .tuple #[y.val, .int .i64 e] ∧ (∀ x, getA A r = some x → y = x ∧ e = 0) ∧ (getA A r = none → y = bareN 0 ∧ e = 4) := by
  cases h : getA A r with
  | none => exact ⟨bareN 0, 4, getV_no h, fun x h => (by cases h), fun _ => ⟨rfl, rfl⟩⟩
  | some x => exact ⟨x, 0, getV_yes h, fun y h => (by cases h; exact ⟨rfl, rfl⟩), fun h => (by cases h)⟩
theorem getA_same {A B : Ar} {r : Int} (h : A.nodes[(placeR r).toNat]? = B.nodes[(placeR r).toNat]?) : getA A r = getA B r := by unfold getA; rw [h]
end Go.Proofs.YtbjmllnddanniaaGreat
set_option linter.unusedVariables false
set_option linter.unusedSimpArgs false
namespace Go.Proofs.YtbjmllnddanniaaGreat
open Go Go.XL
/-- the places that were met, and those from a reference on -/
def visitF (A : Ar) : Nat → List Int → Int → List Int
  | 0, out, _ => out
  | k + 1, out, r => match getA A r with
    | none => out
    | some x => if placeR r ∈ out then out else x.kids.foldl (visitF A k) (out ++ [placeR r])
theorem visitF_no {A : Ar} {k : Nat} {out : List Int} {r : Int} (h : getA A r = none) : visitF A (k + 1) out r = out := by rw [visitF, h]
theorem visitF_met {A : Ar} {k : Nat} {out : List Int} {r : Int} {x : Node} (h : getA A r = some x) (hm : placeR r ∈ out) : visitF A (k + 1) out r = out := by rw [visitF, h]; exact if_pos hm
theorem visitF_new {A : Ar} {k : Nat} {out : List Int} {r : Int} {x : Node} (h : getA A r = some x) (hm : placeR r ∉ out) : visitF A (k + 1) out r = x.kids.foldl (visitF A k) (out ++ [placeR r]) := by rw [visitF, h]; exact if_neg hm

/-- places, each once -/
structure Pl (A : Ar) (out : List Int) : Prop where
  nd : out.Nodup
  rng : ∀ p ∈ out, 0 ≤ p ∧ p < A.nodes.length
theorem Pl.nil (A : Ar) : Pl A [] := ⟨by simp, by simp⟩
theorem Pl.len {A : Ar} {out : List Int} (h : Pl A out) : out.length ≤ A.nodes.length := pigeon _ _ h.nd h.rng
theorem Pl.add {A : Ar} {out : List Int} {p : Int} (h : Pl A out) (hp : 0 ≤ p ∧ p < A.nodes.length) (hn : p ∉ out) : Pl A (out ++ [p]) :=
  ⟨by rw [List.nodup_append]; exact ⟨h.nd, by simp, fun a ha b hb e => by rw [List.mem_singleton] at hb; subst hb; subst e; exact hn ha⟩,
   fun q hq => (List.mem_append.1 hq).elim (h.rng q) (fun h => by rw [List.mem_singleton] at h; exact h ▸ hp)⟩
theorem visitF_pl (A : Ar) : ∀ (k : Nat) (out : List Int) (r : Int), Pl A out → Pl A (visitF A k out r) ∧ ∃ l, visitF A k out r = out ++ l
  | 0, out, r, h => ⟨h, [], by simp [visitF]⟩
  | k + 1, out, r, h => by
    cases hg : getA A r with
    | none => rw [visitF_no hg]; exact ⟨h, [], by simp⟩
    | some x =>
      by_cases hm : placeR r ∈ out
      · rw [visitF_met hg hm]; exact ⟨h, [], by simp⟩
      · rw [visitF_new hg hm]
        have key : ∀ (ks : List Int) (o : List Int), Pl A o → Pl A (ks.foldl (visitF A k) o) ∧ ∃ l, ks.foldl (visitF A k) o = o ++ l := by
          intro ks
          induction ks with
          | nil => intro o ho; exact ⟨ho, [], by simp⟩
          | cons q ks ih =>
            intro o ho
            obtain ⟨h1, l1, h2⟩ := visitF_pl A k o q ho
            obtain ⟨h3, l2, h4⟩ := ih _ h1
            exact ⟨h3, l1 ++ l2, by rw [List.foldl_cons, h4, h2, List.append_assoc]⟩
        obtain ⟨h1, l, h2⟩ := key x.kids _ (h.add (getA_rng hg) hm)
        exact ⟨h1, placeR r :: l, by rw [h2]; simp⟩
end Go.Proofs.YtbjmllnddanniaaGreat
set_option linter.unusedVariables false
set_option linter.unusedSimpArgs false
namespace Go.Proofs.YtbjmllnddanniaaGreat
open Go Go.XL
/-- which places are among those -/
def flagsO (n : Nat) (out : List Int) : List Bool := (List.range n).map fun (p : Nat) => decide ((p : Int) ∈ out)
theorem flagsO_len (n : Nat) (out : List Int) : (flagsO n out).length = n := by simp [flagsO]
theorem flagsO_get (n : Nat) (out : List Int) (x : Int) (h : 0 ≤ x ∧ x < n) : (flagsO n out)[x.toNat]? = some (decide (x ∈ out)) := by
  simp only [flagsO, List.getElem?_map, List.getElem?_range (show x.toNat < n by omega), Option.map_some]
  rw [Int.toNat_of_nonneg h.1]
theorem flagsO_set (n : Nat) (out : List Int) (x : Int) (h : 0 ≤ x ∧ x < n) : (flagsO n out).set x.toNat true = flagsO n (out ++ [x]) := by
  apply List.ext_getElem?
  intro k
  rw [List.getElem?_set, flagsO_len]
  by_cases hk : k < n
  · have h2 := flagsO_get n (out ++ [x]) k (by omega)
    have h3 := flagsO_get n out k (by omega)
    rw [Int.toNat_natCast] at h2 h3
    rw [h2, h3]
    by_cases e : x.toNat = k
    · rw [if_pos e, if_pos (by omega)]
      have : (k : Int) = x := by omega
      simp [this]
    · rw [if_neg e]
      have : ¬ (k : Int) = x := by omega
      simp [this]
  · rw [List.getElem?_eq_none (l := flagsO n (out ++ [x])) (by rw [flagsO_len]; omega), List.getElem?_eq_none (l := flagsO n out) (by rw [flagsO_len]; omega)]
    by_cases e : x.toNat = k
    · rw [if_pos e, if_neg (by omega)]
    · rw [if_neg e]

/-- the boxes of a call of Reach -/
structure Bx where
  E : Nat
  b2 : Nat
  b7 : Nat
  b6 : Nat
  b8 : Nat
  bF : Nat
structure BxOk (w0 : World) (B : Bx) : Prop where
  lt2 : B.b2 < B.E
  lt7 : B.b7 < B.E
  lt6 : B.b6 < B.E
  lt8 : B.b8 < B.E
  ltF : B.bF < B.E
  ge2 : w0.heap.size ≤ B.b2
  ge7 : w0.heap.size ≤ B.b7
  ge6 : w0.heap.size ≤ B.b6
  ge8 : w0.heap.size ≤ B.b8
  geF : w0.heap.size ≤ B.bF
  n27 : B.b2 ≠ B.b7
  n26 : B.b2 ≠ B.b6
  n28 : B.b2 ≠ B.b8
  n2F : B.b2 ≠ B.bF
  n76 : B.b7 ≠ B.b6
  n78 : B.b7 ≠ B.b8
  n7F : B.b7 ≠ B.bF
  n68 : B.b6 ≠ B.b8
  n6F : B.b6 ≠ B.bF
  n8F : B.b8 ≠ B.bF
def selfV (B : Bx) : Value := .func (.func 168) #[] #[.pointer (some ⟨B.b2, 0, none⟩), .pointer (some ⟨B.b7, 0, none⟩), .pointer (some ⟨B.b6, 0, none⟩), .pointer (some ⟨B.b8, 0, none⟩)]
/-- how they stand when 'out' was met -/
structure RS (w0 : World) (B : Bx) (na fa : Option Addr) (nc fc : Nat) (A : Ar) (out : List Int) (a : Option Addr) (c : Nat) (w : World) : Prop where
  h2 : Has w B.b2 [.slice na A.nodes.length nc, .slice fa A.free.length fc] 26
  h7 : Has w B.b7 [.slice (some ⟨B.bF, 0, none⟩) A.nodes.length A.nodes.length] 253
  h6 : Has w B.b6 [.slice a (out.map fun x => [i6 x]).length c] 24
  h8 : Has w B.b8 [selfV B] 183
  hF : Has w B.bF ((flagsO A.nodes.length out).map Value.bool) 4
  o : Ows B.E w 3 1 (.slice a (out.map fun x => [i6 x]).length c) (out.map fun x => [i6 x])
  sz : B.E ≤ w.heap.size
  S : Sub w0 w

theorem getV_form (A : Ar) (r : Int) : ∃ (y : Node) (e : Int), getV A r = .tuple #[y.val, .int .i64 e] ∧ (e = 0 → getA A r = some y) ∧ (¬ e = 0 → getA A r = none) := by
  cases h : getA A r with
  | none => exact ⟨bareN 0, 4, getV_no h, by omega, fun _ => rfl⟩
  | some x => exact ⟨x, 0, getV_yes h, fun _ => rfl, by omega⟩
/-- what was met behind the first j of those -/
def metK (A : Ar) (k : Nat) (ks o : List Int) (j : Nat) : List Int := (ks.take j).foldl (visitF A k) o
theorem metK_0 (A : Ar) (k : Nat) (ks o : List Int) : metK A k ks o 0 = o := by simp [metK]
theorem metK_all (A : Ar) (k : Nat) (ks o : List Int) {n : Nat} (h : ks.length = n) : metK A k ks o n = ks.foldl (visitF A k) o := by rw [metK, ← h, List.take_length]
theorem metK_succ {A : Ar} {k : Nat} {ks o : List Int} {j : Nat} {x : Int} (h : ks[j]? = some x) : metK A k ks o (j + 1) = visitF A k (metK A k ks o j) x := by
  rw [metK, List.take_add_one, h, List.foldl_append]; rfl
theorem metK_pl {A : Ar} {k : Nat} {ks o : List Int} {j : Nat} {x : Int} {n : Nat} (h : ks[j]? = some x) (hp : Pl A (metK A k ks o j)) (hn : n ≤ (metK A k ks o j).length) : Pl A (metK A k ks o (j + 1)) ∧ n ≤ (metK A k ks o (j + 1)).length := by
  have hv := visitF_pl A k _ x hp
  rw [metK_succ h]
  obtain ⟨h1, l, h2⟩ := hv
  exact ⟨h1, by rw [h2, List.length_append]; omega⟩
theorem c_reach1 (w0 : World) (B : Bx) (hB : BxOk w0 B) (na fa : Option Addr) (nc fc : Nat) (A : Ar) (hA : ArR w0 na fa A) (hn : A.nodes.length ≤ 512) : ∀ (k : Nat) (out : List Int) (a : Option Addr) (c : Nat) (r : Int) (w : World), U64 r → A.nodes.length < out.length + k → Pl A out → RS w0 B na fa nc fc A out a c w →
    FC Tryz.prog 168 [.int .u64 r, .pointer (some ⟨B.b2, 0, none⟩), .pointer (some ⟨B.b7, 0, none⟩), .pointer (some ⟨B.b6, 0, none⟩), .pointer (some ⟨B.b8, 0, none⟩)] w (fun _ w' => ∃ a' c', RS w0 B na fa nc fc A (visitF A k out r) a' c' w') := by
  intro k
  induction k with
  | zero => intro out a c r w _ hk hp; exact absurd hp.len (by omega)
  | succ k ih =>
  intro out a c r w hr hk hp hs
  obtain ⟨E, b2, b7, b6, b8, bF⟩ := B
  obtain ⟨l2, l7, l6, l8, lF, g2, g7, g6, g8, gF, n27, n26, n28, n2F, n76, n78, n7F, n68, n6F, n8F⟩ := hB
  obtain ⟨q2, q7, q6, q8, qF, o, szB, S⟩ := hs
  simp only [] at l2 l7 l6 l8 lF g2 g7 g6 g8 gF n27 n26 n28 n2F n76 n78 n7F n68 n6F n8F q2 q7 q6 q8 qF o szB
  obtain ⟨y, e, hgv, hg0, hg1⟩ := getV_form A r
  have hpp := hp.len
  have ge2 := g2; have ge7 := g7; have ge6 := g6; have ge8 := g8; have geF := gF
  refine FC.intro Tryz.func168 rfl Tryz.ntmps168 rfl ?_
  have d2 : ∀ k, ob (.slice a (out.map fun x => [i6 x]).length c) = some k → E ≤ k := fun k hk => (o.ge k hk).1
  have nb2_b7 : b2 ≠ b7 := by exact n27
  have nb2_b6 : b2 ≠ b6 := by exact n26
  have nb2_b8 : b2 ≠ b8 := by exact n28
  have nb2_bF : b2 ≠ bF := by exact n2F
  have nb7_b6 : b7 ≠ b6 := by exact n76
  have nb7_b8 : b7 ≠ b8 := by exact n78
  have nb7_bF : b7 ≠ bF := by exact n7F
  have nb6_b8 : b6 ≠ b8 := by exact n68
  have nb6_bF : b6 ≠ bF := by exact n6F
  have nb8_bF : b8 ≠ bF := by exact n8F
  refine RC.seq ?_
  refine RC.region rfl ?_
  refine RL.ev (.loadR (_) sh26 rfl q2.row rfl) rfl rfl ?_
  refine RL.ev (.move rfl) rfl rfl ?_
  refine RL.call rfl ok125 (c_aGet A na fa nc fc r hr w (hA.sub S)) rfl rfl ?_
  rintro _ w1 ⟨rfl, s2⟩
  have S := S.trans s2
  have q2 := q2.sub s2
  have q7 := q7.sub s2
  have q6 := q6.sub s2
  have q8 := q8.sub s2
  have qF := qF.sub s2
  have o := o.sub s2
  have szB := Nat.le_trans szB s2.size
  refine RL.ev (.as (v' := .tuple #[y.val, .int .i64 e]) (.move rfl) (by rw [hgv])) rfl rfl ?_
  refine RL.ev (.extract rfl rfl) rfl rfl ?_
  refine RL.ev (.extract rfl rfl) rfl rfl ?_
  refine RL.alloc ze140 rfl rfl (fun b_6 w_6 e_6 z_6 hb_6 s_6 => ?_)
  have ge_6 := S.le e_6
  have n2__6 := q2.ne e_6
  have n7__6 := q7.ne e_6
  have n6__6 := q6.ne e_6
  have n8__6 := q8.ne e_6
  have nF__6 := qF.ne e_6
  have d_o_b_6 := o.neNew e_6
  have S := S.trans s_6
  have q2 := q2.sub s_6
  have q7 := q7.sub s_6
  have q6 := q6.sub s_6
  have q8 := q8.sub s_6
  have qF := qF.sub s_6
  have o := o.sub s_6
  have szB := Nat.le_trans szB s_6.size
  refine RL.store sh140 rfl rfl rfl hb_6 (by exact Nat.le_of_ble_eq_true rfl) (by rfl) rfl (fun w3 z3 hb_6 a3 => ?_)
  have S := S.upd a3 ge_6
  have q2 := q2.upd a3 n2__6
  have q7 := q7.upd a3 n7__6
  have q6 := q6.upd a3 n6__6
  have q8 := q8.upd a3 n8__6
  have qF := qF.upd a3 nF__6
  have o := o.updD a3 d_o_b_6
  have szB := Nat.le_trans szB a3.size
  have hb_6 : Has w3 b_6 (y.cells) _ := hb_6.now (by kernel_rfl)
  refine RL.ev (.assign rfl) rfl rfl ?_
  refine RL.nil (RC.back ?_)
  refine RC.seq ?_
  refine RC.region rfl ?_
  refine RL.ev (.move rfl) rfl rfl ?_
  refine RL.call rfl ok169 (c_refPlace r hr w3) rfl rfl ?_
  rintro _ w4 ⟨rfl, s5⟩
  have S := S.trans s5
  have q2 := q2.sub s5
  have q7 := q7.sub s5
  have q6 := q6.sub s5
  have q8 := q8.sub s5
  have qF := qF.sub s5
  have o := o.sub s5
  have szB := Nat.le_trans szB s5.size
  have hb_6 := hb_6.sub s5
  refine RL.ev (.assign rfl) rfl rfl ?_
  refine RL.nil (RC.back ?_)
  refine RC.seq ?_
  refine RC.seq ?_
  refine RC.region rfl ?_
  refine RL.ev (.move rfl) rfl rfl ?_
  refine RL.ev (.bin rfl rfl rfl) rfl rfl ?_
  refine RL.ev (.move rfl) rfl rfl ?_
  refine RL.split 21 rfl (fun h6 => ?_) (fun h6 => ?_)
  ·
    have he := h6
    refine RL.off rfl rfl ?_
    refine RL.off rfl rfl ?_
    refine RL.off rfl rfl ?_
    refine RL.off rfl rfl ?_
    refine RL.ev (.pick_t rfl rfl) rfl rfl ?_
    refine RL.nil (RC.back ?_)
    refine RC.cond_t rfl ?_
    refine RC.done (rs := []) (vs := []) rfl rfl trivial ?_
    -- end 1
    rw [visitF_no (hg1 (by omega))]
    exact ⟨_, _, q2, q7, q6, q8, qF, o, szB, S⟩
  ·
    have hx := hg0 (by omega)
    have hrng := getA_rng hx
    refine RL.ev (.load1 sh253 rfl (q7.cell rfl)) rfl rfl ?_
    refine RL.ev (.move rfl) rfl rfl ?_
    refine RL.ev (.indexO sl253 rfl rfl (by omega)) rfl rfl ?_
    refine RL.ev (.load1 sh4 rfl (qF.cell (v := .bool (decide (placeR r ∈ out))) (by rw [Nat.mul_one, Nat.zero_add, List.getElem?_map, flagsO_get _ _ _ (by omega)]; rfl))) rfl rfl ?_
    refine RL.ev (.pick_f rfl rfl) rfl rfl ?_
    refine RL.nil (RC.back ?_)
    refine RC.cond_dec rfl (fun h7 => ?_) (fun h7 => ?_)
    ·
      have hin := h7
      refine RC.done (rs := []) (vs := []) rfl rfl trivial ?_
      -- end 2
      rw [visitF_met hx hin]
      exact ⟨_, _, q2, q7, q6, q8, qF, o, szB, S⟩
    ·
      have hno := h7
      have hp2 := hp.add hrng hno
      have hpp2 := hp2.len
      rw [List.length_append] at hpp2
      refine RC.skip (RC.back ?_)
      refine RC.seq ?_
      refine RC.region rfl ?_
      refine RL.ev (.load1 sh253 rfl (q7.cell rfl)) rfl rfl ?_
      refine RL.ev (.move rfl) rfl rfl ?_
      refine RL.ev (.indexO sl253 rfl rfl (by omega)) rfl rfl ?_
      refine RL.store sh4 rfl rfl rfl qF (by show 0 + (placeR r).toNat * 1 + 1 ≤ _; rw [List.length_map, flagsO_len]; omega) (by rfl) rfl (fun w8 z8 qF a8 => ?_)
      have S := S.upd a8 geF
      have q2 := q2.upd a8 nb2_bF
      have q7 := q7.upd a8 nb7_bF
      have q6 := q6.upd a8 nb6_bF
      have q8 := q8.upd a8 nb8_bF
      have o := o.updD a8 (fun k hk e => absurd (o.ge k hk).1 (by omega))
      have szB := Nat.le_trans szB a8.size
      have hb_6 := hb_6.upd a8 nF__6.symm
      have qF := (Has.set1 (enc := Value.bool) (i := (placeR r).toNat) (x := true) (by rw [Nat.zero_add, Nat.mul_one] at qF; exact qF))
      rw [flagsO_set _ _ _ hrng] at qF
      refine RL.nil (RC.back ?_)
      refine RC.seq ?_
      refine RC.region rfl ?_
      refine RL.ev (.load1 sh24 rfl (q6.cell rfl)) rfl rfl ?_
      refine RL.ev (.move rfl) rfl rfl ?_
      refine RL.buildSlice1 sl24 _ ze3 rfl rfl rfl rfl rfl rfl rfl (fun b_32 w_32 e_32 z_32 hb_32 s_32 => ?_)
      have ge_32 := S.le e_32
      have n2__32 := q2.ne e_32
      have n7__32 := q7.ne e_32
      have n6__32 := q6.ne e_32
      have n8__32 := q8.ne e_32
      have nF__32 := qF.ne e_32
      have n_6__32 := hb_6.ne e_32
      have d_o_b_32 := o.neNew e_32
      have S := S.trans s_32
      have q2 := q2.sub s_32
      have q7 := q7.sub s_32
      have q6 := q6.sub s_32
      have q8 := q8.sub s_32
      have qF := qF.sub s_32
      have o := o.sub s_32
      have szB := Nat.le_trans szB s_32.size
      have hb_6 := hb_6.sub s_32
      have sz_33 := S.size
      have ltb2_33 := q2.lt
      have ltb7_33 := q7.lt
      have ltb6_33 := q6.lt
      have ltb8_33 := q8.lt
      have ltbF_33 := qF.lt
      have ltb_6_33 := hb_6.lt
      have ltb_32_33 := hb_32.lt
      refine RL.append2 (base := E) (rows := out.map fun x => [i6 x]) (news := [_]) sl24 ze3 rfl rfl rfl rfl (.inl o) (Has.slOne hb_32) rfl (by intro r hr; rw [List.mem_singleton] at hr; subst hr; rfl) rfl (by (try simp only [List.length_map, List.length_nil, List.length_append, List.length_cons]); omega) (by (try simp only [List.length_map, List.length_nil, List.length_append, List.length_cons]); omega) (by omega) rfl rfl (fun v_33 w_33 hc_33 ho_33 ag_33 ob_33 => ?_)
      have o33 := ho_33 (.inl (by simp))
      rw [show _ ++ [_] = ((out ++ [placeR r]).map fun x => [i6 x]) from by rw [List.map_append]; rfl] at o33
      have d_o33_b2 := obNe ob_33 (fun k hk e => absurd (o.ge k hk).1 (by omega)) q2.lt
      have d_o33_b7 := obNe ob_33 (fun k hk e => absurd (o.ge k hk).1 (by omega)) q7.lt
      have d_o33_b6 := obNe ob_33 (fun k hk e => absurd (o.ge k hk).1 (by omega)) q6.lt
      have d_o33_b8 := obNe ob_33 (fun k hk e => absurd (o.ge k hk).1 (by omega)) q8.lt
      have d_o33_bF := obNe ob_33 (fun k hk e => absurd (o.ge k hk).1 (by omega)) qF.lt
      have d_o33_b_6 := obNe ob_33 d_o_b_6 hb_6.lt
      have S := S.agrN ag_33 (fun k e => Nat.le_trans (by omega) e.2)
      have q2 := q2.step ag_33 (fun e => absurd e.2 (by omega))
      have q7 := q7.step ag_33 (fun e => absurd e.2 (by omega))
      have q6 := q6.step ag_33 (fun e => absurd e.2 (by omega))
      have q8 := q8.step ag_33 (fun e => absurd e.2 (by omega))
      have qF := qF.step ag_33 (fun e => absurd e.2 (by omega))
      have szB := Nat.le_trans szB ag_33.size
      have hb_6 := hb_6.step ag_33 (fun e => d_o_b_6 _ e.1 rfl)
      obtain ⟨a_33, c_33, rfl, k_33⟩ := o33.form
      refine RL.store sh24 rfl rfl rfl q6 (by exact Nat.le_of_ble_eq_true rfl) (by rfl) rfl (fun w9 z9 q6 a9 => ?_)
      have S := S.upd a9 ge6
      have q2 := q2.upd a9 nb2_b6
      have q7 := q7.upd a9 nb7_b6
      have q8 := q8.upd a9 nb6_b8.symm
      have qF := qF.upd a9 nb6_bF.symm
      have szB := Nat.le_trans szB a9.size
      have hb_6 := hb_6.upd a9 n6__6.symm
      have o33 := o33.updD a9 d_o33_b6
      refine RL.nil (RC.back ?_)
      refine RC.seq ?_
      refine RC.region rfl ?_
      refine RL.ev (.field0 fo140_5 rfl) rfl rfl ?_
      refine RL.ev (.loadR (y.kids.map u6) sh138 rfl (Has.row_at (pre := [i6 y.kind, i6 y.gen, i6 y.n, i6 y.v, i6 y.s]) (mid := y.kids.map u6) (post := [i6 y.pre, i6 y.suf]) hb_6 rfl) rfl) rfl rfl ?_
      refine RL.ev (.move rfl) rfl rfl ?_
      refine RL.nil (RC.back ?_)
      refine RC.block ?_
      refine RC.loop (α := Nat × Option Addr × Nat) (fun x => [(4, .pointer (some ⟨b8, 0, none⟩)), (35, .agg (y.kids.map u6).toArray), (36, .int .i64 (x.1 : Int))]) (fun x w10 => x.1 ≤ 9 ∧ Pl A (metK A k y.kids (out ++ [placeR r]) x.1) ∧ out.length + 1 ≤ (metK A k y.kids (out ++ [placeR r]) x.1).length ∧ RS w0 ⟨E, b2, b7, b6, b8, bF⟩ na fa nc fc A (metK A k y.kids (out ++ [placeR r]) x.1) x.2.1 x.2.2 w10) (fun x => 9 - x.1) (0, a_33, c_33) (keep_of (by repeat (first | exact trivial | refine And.intro rfl ?_))) (⟨by omega, by rw [metK_0]; exact hp2, by rw [metK_0]; simp, by rw [metK_0]; exact ⟨q2, q7, q6, q8, qF, o33, szB, S⟩⟩) (fun x w10 hJ => ?_)
      obtain ⟨j, aj, cj⟩ := x; obtain ⟨hj, hpj, hlj, hs⟩ := hJ; obtain ⟨q2, q7, q6, q8, qF, o, szB, S⟩ := hs; simp only [] at hj hpj hlj q2 q7 q6 q8 qF o szB
      refine RC.seq ?_
      refine RC.region rfl ?_
      refine RL.ev (.bin rfl rfl rfl) rfl rfl ?_
      refine RL.nil (RC.back ?_)
      refine RC.seq ?_
      refine RC.cond_dec rfl (fun h11 => ?_) (fun h11 => ?_)
      ·
        obtain ⟨kj, hkj⟩ := getSome (l := y.kids) (i := j) (by show j < 9; omega)
        refine RC.skip (RC.back ?_)
        refine RC.seq ?_
        refine RC.block ?_
        refine RC.seq ?_
        refine RC.region rfl ?_
        refine RL.ev (.index1 ar138 sh31 rfl rfl (by omega) ((by simp [hkj] : (y.kids.map u6).toArray[(j : Int).toNat * 1]? = some (u6 kj)))) rfl rfl ?_
        refine RL.ev (.assign rfl) rfl rfl ?_
        refine RL.nil (RC.back ?_)
        refine RC.region rfl ?_
        refine RL.ev (.load1 sh183 rfl (q8.cell rfl)) rfl rfl ?_
        refine RL.ev (.move rfl) rfl rfl ?_
        refine RL.callv rfl rfl (us := []) (cs := [.pointer (some ⟨b2, 0, none⟩), .pointer (some ⟨b7, 0, none⟩), .pointer (some ⟨b6, 0, none⟩), .pointer (some ⟨b8, 0, none⟩)]) ok168 (ih _ aj cj kj w10 ((hA.nok y (getA_nok hx)).kids kj (List.mem_of_getElem? hkj)) (by omega) hpj ⟨q2, q7, q6, q8, qF, o, szB, S⟩) rfl rfl ?_
        rintro _ w12 ⟨a2, c2, hs2⟩
        have hv := metK_pl hkj hpj hlj
        rw [← metK_succ hkj] at hs2
        refine RL.nil (RC.back ?_)
        refine RC.region rfl ?_
        refine RL.ev (.as (.bin rfl rfl rfl) (wi64 (y := ((j + 1 : Nat) : Int)) (by omega) (by omega))) rfl rfl ?_
        refine RL.ev (.move rfl) rfl rfl ?_
        exact RL.nil (fun a ka => ⟨(j + 1, a2, c2), ⟨by omega, hv.1, hv.2, hs2⟩, by omega, ka.keep (keep_of (by repeat (first | exact trivial | refine And.intro rfl ?_)))⟩)
      ·
        obtain rfl : j = 9 := (by omega)
        refine RC.exit rfl ?_
        refine fun a ka => ⟨ka.defers, _, run_results (rs := []) (vs := []) ka rfl trivial, ?_⟩
        -- end 3
        rw [visitF_new hx hno, ← metK_all A k y.kids _ (n := 9) rfl]
        exact ⟨_, _, q2, q7, q6, q8, qF, o, szB, S⟩

/-- what is reached -/
def reachA (A : Ar) (l : List Int) : List Int := l.foldl (visitF A 513) []
theorem flagsO_nil (n : Nat) : flagsO n [] = List.replicate n false := by
  apply List.ext_getElem <;> simp [flagsO]
theorem c_aReach (A : Ar) (na fa : Option Addr) (nc fc : Nat) (l : List Int) (m : Nat) (hm : m = l.length) (pa : Option Addr) (pc : Nat) (hl : l.length ≤ 10000) (hli : ∀ x ∈ l, U64 x) (w : World) (hA : ArR w na fa A) (hP : Sl w pa 1 (l.map fun x => [u6 x])) :
    FC Tryz.prog 100 [arV na fa nc fc A, .slice pa m pc] w (fun v w' => Sub w w' ∧ (¬ AOk A ∧ v = .tuple #[.slice none 0 0, .int .i64 1] ∨
      AOk A ∧ ∃ a c, v = .tuple #[.slice a ((reachA A l).map fun x => [i6 x]).length c, .int .i64 0] ∧ (reachA A l).length ≤ c ∧ Pl A (reachA A l) ∧ ∀ N : Nat → Prop, (∀ k, N k → k < w.heap.size) → Imm N (fun u => Sl u a 1 ((reachA A l).map fun x => [i6 x])) w')) := by
  subst hm
  have hN := hA.nodes
  have hFr := hA.free
  refine FC.intro Tryz.func100 rfl Tryz.ntmps100 rfl ?_
  have S := Sub.refl w
  refine RC.seq ?_
  refine RC.region rfl ?_
  refine RL.box rfl rfl rfl (fun b_2 w_2 e_2 z_2 hb_2 s_2 => ?_)
  have ge_2 := S.le e_2
  have S := S.trans s_2
  have hb_2 : Has w_2 b_2 ([.slice na A.nodes.length nc, .slice fa A.free.length fc]) _ := hb_2
  refine RL.ev (.assign rfl) rfl rfl ?_
  refine RL.ev (.assign rfl) rfl rfl ?_
  refine RL.nil (RC.back ?_)
  refine RC.seq ?_
  refine RC.seq ?_
  refine RC.region rfl ?_
  refine RL.ev (.loadR ([.slice na A.nodes.length nc, .slice fa A.free.length fc]) sh26 rfl hb_2.row rfl) rfl rfl ?_
  refine RL.call rfl ok109 (c_aRight A na fa nc fc w_2 (hA.sub S)) rfl rfl ?_
  rintro _ w1 ⟨rfl, s2⟩
  have S := S.trans s2
  have hb_2 := hb_2.sub s2
  refine RL.ev (.not rfl) rfl rfl ?_
  refine RL.nil (RC.back ?_)
  refine RC.cond rfl (fun h3 => ?_) (fun h3 => ?_)
  ·
    have hno : ¬ AOk A := (fun h => by have h2 := h3; rw [aokB_yes h] at h2; cases h2)
    refine RC.seq ?_
    refine RC.region rfl ?_
    refine RL.ev (.assign rfl) rfl rfl ?_
    refine RL.ev (.assign rfl) rfl rfl ?_
    refine RL.nil (RC.back ?_)
    refine RC.done (rs := [.tmp 4, .tmp 5]) (vs := [_, _]) rfl rfl ⟨rfl, rfl, trivial⟩ ?_
    -- end 1
    exact ⟨S, .inl ⟨hno, rfl⟩⟩
  ·
    have hok : AOk A := (aokB_iff A).1 (by simpa using h3)
    have hmost := hok.most
    refine RC.skip (RC.back ?_)
    refine RC.seq ?_
    refine RC.region rfl ?_
    refine RL.alloc ze24 rfl rfl (fun b_6 w_6 e_6 z_6 hb_6 s_6 => ?_)
    have ge_6 := S.le e_6
    have n_2__6 := hb_2.ne e_6
    have S := S.trans s_6
    have hb_2 := hb_2.sub s_6
    refine RL.nil (RC.back ?_)
    refine RC.seq ?_
    refine RC.region rfl ?_
    refine RL.ev (.field0 fo26_0 rfl) rfl rfl ?_
    refine RL.ev (.load1 sh23 rfl (hb_2.cell rfl)) rfl rfl ?_
    refine RL.ev (.len sl23 rfl) rfl rfl ?_
    refine RL.makeSlice sl253 ze4 rfl rfl rfl rfl (by omega) rfl rfl (fun b_17 w_17 e_17 z_17 hb_17 s_17 => ?_)
    have ge_17 := S.le e_17
    have n_2__17 := hb_2.ne e_17
    have n_6__17 := hb_6.ne e_17
    have S := S.trans s_17
    have hb_2 := hb_2.sub s_17
    have hb_6 := hb_6.sub s_17
    have hF : Has w_17 b_17 ((flagsO A.nodes.length []).map Value.bool) 4 := by have := hb_17; rw [flagsO_nil, List.map_replicate]; rw [Int.toNat_natCast] at this; rw [← rep1]; exact this
    refine RL.alloc ze253 rfl rfl (fun b_7 w_7 e_7 z_7 hb_7 s_7 => ?_)
    have ge_7 := S.le e_7
    have n_2__7 := hb_2.ne e_7
    have n_6__7 := hb_6.ne e_7
    have n_17__7 := hF.ne e_7
    have S := S.trans s_7
    have hb_2 := hb_2.sub s_7
    have hb_6 := hb_6.sub s_7
    have hF := hF.sub s_7
    refine RL.store sh253 rfl rfl rfl hb_7 (by exact Nat.le_of_ble_eq_true rfl) (by rfl) rfl (fun w4 z4 hb_7 a4 => ?_)
    have S := S.upd a4 ge_7
    have hb_2 := hb_2.upd a4 n_2__7
    have hb_6 := hb_6.upd a4 n_6__7
    have hF := hF.upd a4 n_17__7
    refine RL.nil (RC.back ?_)
    refine RC.seq ?_
    refine RC.region rfl ?_
    refine RL.alloc ze183 rfl rfl (fun b_8 w_8 e_8 z_8 hb_8 s_8 => ?_)
    have ge_8 := S.le e_8
    have n_2__8 := hb_2.ne e_8
    have n_6__8 := hb_6.ne e_8
    have n_17__8 := hF.ne e_8
    have n_7__8 := hb_7.ne e_8
    have S := S.trans s_8
    have hb_2 := hb_2.sub s_8
    have hb_6 := hb_6.sub s_8
    have hF := hF.sub s_8
    have hb_7 := hb_7.sub s_8
    refine RL.nil (RC.back ?_)
    refine RC.seq ?_
    refine RC.region rfl ?_
    refine RL.ev (.func (xs := []) (ys := [_, _, _, _]) rfl rfl) rfl rfl ?_
    refine RL.store sh183 rfl rfl rfl hb_8 (by exact Nat.le_of_ble_eq_true rfl) (by rfl) rfl (fun w5 z5 hb_8 a5 => ?_)
    have S := S.upd a5 ge_8
    have hb_2 := hb_2.upd a5 n_2__8
    have hb_6 := hb_6.upd a5 n_6__8
    have hF := hF.upd a5 n_17__8
    have hb_7 := hb_7.upd a5 n_7__8
    have hb_8 : Has w5 b_8 ([selfV ⟨0, b_2, b_7, b_6, b_8, b_17⟩]) _ := hb_8
    obtain ⟨E, hE⟩ : ∃ E, E = w5.heap.size := ⟨_, rfl⟩
    have l2 := hb_2.lt
    have l6 := hb_6.lt
    have l7 := hb_7.lt
    have l8 := hb_8.lt
    have lF := hF.lt
    rw [← hE] at l2 l6 l7 l8 lF
    have szS := S.size
    have hB : BxOk w ⟨E, b_2, b_7, b_6, b_8, b_17⟩ := ⟨l2, l7, l6, l8, lF, ge_2, ge_7, ge_6, ge_8, ge_17, n_2__7, n_2__6, n_2__8, n_2__17, n_6__7.symm, n_7__8, n_17__7.symm, n_6__8, n_6__17, n_17__8.symm⟩
    refine RL.nil (RC.back ?_)
    refine RC.seq ?_
    refine RC.seq ?_
    refine RC.region rfl ?_
    refine RL.ev (.move rfl) rfl rfl ?_
    refine RL.ev (.len sl73 rfl) rfl rfl ?_
    refine RL.ev (.move rfl) rfl rfl ?_
    refine RL.nil (RC.back ?_)
    refine RC.block ?_
    refine RC.loop (α := Nat × Option Addr × Nat) (fun x => [(6, .pointer (some ⟨b_6, 0, none⟩)), (8, .pointer (some ⟨b_8, 0, none⟩)), (19, .slice pa l.length pc), (20, .int .i64 (l.length : Int)), (21, .int .i64 (x.1 : Int))]) (fun x w6 => x.1 ≤ l.length ∧ Pl A (metK A 513 l [] x.1) ∧ RS w ⟨E, b_2, b_7, b_6, b_8, b_17⟩ na fa nc fc A (metK A 513 l [] x.1) x.2.1 x.2.2 w6) (fun x => l.length - x.1) (0, none, 0) (keep_of (by repeat (first | exact trivial | refine And.intro rfl ?_))) (⟨Nat.zero_le _, Pl.nil A, hb_2, hb_7, hb_6, hb_8, hF, Ows.nil _ _ _ _, by show E ≤ _; omega, S⟩) (fun x w6 hJ => ?_)
    obtain ⟨i, a, c⟩ := x; obtain ⟨hi, hp, hs⟩ := hJ; simp only [] at hi hp hs; have hb_6 := hs.h6; have hb_8 := hs.h8; have hS := hs.S; simp only [] at hb_6 hb_8
    refine RC.seq ?_
    refine RC.region rfl ?_
    refine RL.ev (.bin rfl rfl rfl) rfl rfl ?_
    refine RL.nil (RC.back ?_)
    refine RC.seq ?_
    refine RC.cond_dec rfl (fun h7 => ?_) (fun h7 => ?_)
    ·
      obtain ⟨y, hy⟩ := getSome (l := l) (i := i) (by omega)
      refine RC.skip (RC.back ?_)
      refine RC.seq ?_
      refine RC.block ?_
      refine RC.seq ?_
      refine RC.region rfl ?_
      refine RL.ev (.indexS sl73 rfl rfl (by omega) (hP.is (i := 0) (by simp only [List.length_map, List.length_cons, List.length_nil]; omega))) rfl rfl ?_
      refine RL.ev (.load1 sh31 rfl ((hP.sub hS).one (enc := u6) (i := i) hy)) rfl rfl ?_
      refine RL.ev (.assign rfl) rfl rfl ?_
      refine RL.nil (RC.back ?_)
      refine RC.region rfl ?_
      refine RL.ev (.load1 sh183 rfl (hb_8.cell rfl)) rfl rfl ?_
      refine RL.ev (.move rfl) rfl rfl ?_
      refine RL.callv rfl rfl (us := []) (cs := [.pointer (some ⟨b_2, 0, none⟩), .pointer (some ⟨b_7, 0, none⟩), .pointer (some ⟨b_6, 0, none⟩), .pointer (some ⟨b_8, 0, none⟩)]) ok168 (c_reach1 w ⟨E, b_2, b_7, b_6, b_8, b_17⟩ hB na fa nc fc A hA hmost 513 _ a c y w6 (hli y (List.mem_of_getElem? hy)) (by omega) hp hs) rfl rfl ?_
      rintro _ w8 ⟨a2, c2, hs2⟩
      rw [← metK_succ hy] at hs2
      have hv := (metK_pl (n := 0) hy hp (by omega)).1
      refine RL.nil (RC.back ?_)
      refine RC.region rfl ?_
      refine RL.ev (.as (.bin rfl rfl rfl) (wi64 (y := ((i + 1 : Nat) : Int)) (by omega) (by omega))) rfl rfl ?_
      refine RL.ev (.move rfl) rfl rfl ?_
      exact RL.nil (fun a ka => ⟨(i + 1, a2, c2), ⟨by omega, hv, hs2⟩, by omega, ka.keep (keep_of (by repeat (first | exact trivial | refine And.intro rfl ?_)))⟩)
    ·
      obtain rfl : i = l.length := (by omega)
      have e0 := metK_all A 513 l [] rfl
      rw [e0] at hp hs hb_6
      have kc := hs.o.form
      refine RC.exit rfl (RC.back ?_)
      refine RC.seq ?_
      refine RC.region rfl ?_
      refine RL.ev (.load1 sh24 rfl (hb_6.cell rfl)) rfl rfl ?_
      refine RL.ev (.assign rfl) rfl rfl ?_
      refine RL.ev (.assign rfl) rfl rfl ?_
      refine RL.nil (RC.back ?_)
      refine RC.done (rs := [.tmp 4, .tmp 5]) (vs := [_, _]) rfl rfl ⟨rfl, rfl, trivial⟩ ?_
      -- end 2
      obtain ⟨_, c', e, k⟩ := kc
      cases e
      exact ⟨hS, .inr ⟨hok, _, _, rfl, by rw [List.length_map] at k; exact k, hp, fun N hN => hs.o.imm (fun k hk => by have := hN k hk; show k < E; omega)⟩⟩
end Go.Proofs.YtbjmllnddanniaaGreat
set_option linter.unusedVariables false
set_option linter.unusedSimpArgs false
namespace Go.Proofs.YtbjmllnddanniaaGreat
open Go Go.XL
def kidsAt (A : Ar) (p : Int) : List Int := (A.nodes.getD p.toNat (bareN 0)).kids
inductive Rea (A : Ar) (P : Int → Prop) : Int → Prop
  | root {r : Int} {x : Node} : P r → getA A r = some x → Rea A P (placeR r)
  | kid {p q : Int} {x : Node} : Rea A P p → q ∈ kidsAt A p → getA A q = some x → Rea A P (placeR q)
theorem Rea.same {A : Ar} {P Q : Int → Prop} (h : ∀ x, P x → Q x) {p : Int} (hp : Rea A P p) : Rea A Q p := by
  induction hp with
  | root h1 h2 => exact .root (h _ h1) h2
  | kid _ h2 h3 ih => exact .kid ih h2 h3
theorem Rea.node {A : Ar} {P : Int → Prop} {p : Int} (hp : Rea A P p) : ∃ x, A.nodes[p.toNat]? = some x ∧ ¬ x.kind = 0 := by
  cases hp with
  | root _ h2 => exact ⟨_, getA_get h2⟩
  | kid _ _ h3 => exact ⟨_, getA_get h3⟩
end Go.Proofs.YtbjmllnddanniaaGreat
set_option linter.unusedVariables false
set_option linter.unusedSimpArgs false
namespace Go.Proofs.YtbjmllnddanniaaGreat
open Go Go.XL
def pk (a c : Int) : Value := .agg #[.int .i64 a, .int .i64 c]
/-- block b is a map; f tells what is read at two numbers -/
def HasP (w : World) (b : Nat) (f : Int → Int → Option Value) : Prop :=
  ∃ es clock, w.heap[b]? = some (.map es clock) ∧ (∀ x ∈ es.toList, ∃ a c, x.key = pk a c) ∧ ∀ a c v, f a c = some v ↔ ∃ x ∈ es.toList, x.key = pk a c ∧ x.val = v
theorem HasP.lt {w b f} (h : HasP w b f) : b < w.heap.size := by
  obtain ⟨es, c, h, _⟩ := h
  rcases Nat.lt_or_ge b w.heap.size with g | g
  · exact g
  · rw [Array.getElem?_eq_none g] at h; cases h
theorem HasP.step {N : Nat → Prop} {w w' b f} (h : HasP w b f) (k : Agr N w w') (hn : ¬ N b) : HasP w' b f := by
  obtain ⟨es, c, h1, h2⟩ := id h
  exact ⟨es, c, (k.block b h.lt hn).trans h1, h2⟩
theorem HasP.sub {w w' b f} (h : HasP w b f) (k : Sub w w') : HasP w' b f := h.step (N := fun _ => False) k.agr id
theorem HasP.upd {w w' b b' f} (h : HasP w b f) (a : Agr (· = b') w w') (hn : b ≠ b') : HasP w' b f := h.step a hn
theorem HasP.ne {w b f b'} (h : HasP w b f) (hb : b' = w.heap.size) : b ≠ b' := fun e => by have := h.lt; omega
end Go.Proofs.YtbjmllnddanniaaGreat
set_option linter.unusedVariables false
set_option linter.unusedSimpArgs false
namespace Go.Proofs.YtbjmllnddanniaaGreat
open Go Go.XL
def u64 (x : BitVec 64) : Value := .int .u64 (x.toNat : Int)
theorem u64_shr (x : BitVec 64) (k : Nat) (hk : k ≤ 64) : Value.int .u64 ((x.toNat : Int).fdiv (2 ^ min ((k : Int).toNat) IntKind.u64.bits)) = u64 (x >>> k) := by
  unfold u64
  congr 1
  rw [show min ((k : Int).toNat) IntKind.u64.bits = k by simp [IntKind.bits]; omega]
  have h2 : ((2 : Int) ^ k) = ((2 ^ k : Nat) : Int) := by rw [Int.natCast_pow]; rfl
  rw [BitVec.toNat_ushiftRight, Nat.shiftRight_eq_div_pow, Int.natCast_ediv, h2, Int.fdiv_eq_ediv_of_nonneg _ (Int.natCast_nonneg _)]
theorem ofInt_toNat (z : BitVec 64) : BitVec.ofInt 64 (z.toNat : Int) = z := by rw [BitVec.ofInt_natCast]; simp
theorem toNat_lt (z : BitVec 64) : z.toNat < 18446744073709551616 := z.isLt
theorem u64_xor (x y : BitVec 64) : Value.int .u64 (IntKind.u64.wrap ((BitVec.ofInt 64 (x.toNat : Int) ^^^ BitVec.ofInt 64 (y.toNat : Int)).toNat : Int)) = u64 (x ^^^ y) := by
  unfold u64
  rw [ofInt_toNat x, ofInt_toNat y, wrap_u64 ⟨Int.natCast_nonneg _, by have := toNat_lt (x ^^^ y); omega⟩]
theorem u64_of (x : Int) : Value.int .u64 (IntKind.u64.wrap x) = u64 (BitVec.ofInt 64 x) := by
  unfold u64
  congr 1
  rw [IntKind.wrap_u64, BitVec.toNat_ofInt]
  omega
theorem u64_low20 (x : BitVec 64) : Value.int .u64 (IntKind.u64.wrap ((BitVec.ofInt 64 (x.toNat : Int) &&& BitVec.ofInt 64 1048575).toNat : Int)) = .int .u64 ((x.toNat % 1048576 : Nat) : Int) := by
  have h2 : (x &&& BitVec.ofInt 64 1048575).toNat = x.toNat % 1048576 := by
    show (x &&& 1048575#64).toNat = _
    rw [BitVec.toNat_and]
    exact Nat.and_two_pow_sub_one_eq_mod x.toNat 20
  have h3 : x.toNat % 1048576 < 1048576 := Nat.mod_lt _ (by decide)
  rw [ofInt_toNat x, h2, wrap_u64 ⟨Int.natCast_nonneg _, by omega⟩]
theorem u64_mul (x : BitVec 64) (c : Nat) : Value.int .u64 (IntKind.u64.wrap ((x.toNat : Int) * (c : Int))) = u64 (x * BitVec.ofNat 64 c) := by
  rw [u64_of]
  congr 1
  rw [← Int.natCast_mul, BitVec.ofInt_natCast]
  apply BitVec.eq_of_toNat_eq
  simp [BitVec.toNat_mul]
theorem u64_add (x : BitVec 64) (c : Nat) : Value.int .u64 (IntKind.u64.wrap ((x.toNat : Int) + (c : Int))) = u64 (x + BitVec.ofNat 64 c) := by
  rw [u64_of]
  congr 1
  rw [← Int.natCast_add, BitVec.ofInt_natCast]
  apply BitVec.eq_of_toNat_eq
  simp [BitVec.toNat_add]

def mixOf (x : BitVec 64) : BitVec 64 :=
  let a := (x ^^^ (x >>> 30)) * 13787848793156543929#64
  let b := (a ^^^ (a >>> 27)) * 10723151780598845931#64
  (b ^^^ (b >>> 31)) * 1#64

set_option maxRecDepth 4000 in
theorem c_mixOf (x : BitVec 64) (w : World) : FC Tryz.prog 276 [u64 x] w (Val (u64 (mixOf x)) w) := by
  refine FC.intro Tryz.func276 rfl Tryz.ntmps276 rfl ?_
  have S := Sub.refl w
  refine RC.seq ?_
  refine RC.region rfl ?_
  refine RL.ev (.assign rfl) rfl rfl ?_
  refine RL.nil (RC.back ?_)
  refine RC.seq ?_
  refine RC.seq ?_
  refine RC.region rfl ?_
  refine RL.ev (.as (v' := .agg #[.int .i64 30, .int .u64 13787848793156543929]) (.buildS ze360 pl360 rfl rfl) (by rfl)) rfl rfl ?_
  refine RL.ev (.as (v' := .agg #[.int .i64 27, .int .u64 10723151780598845931]) (.buildS ze360 pl360 rfl rfl) (by rfl)) rfl rfl ?_
  refine RL.ev (.as (v' := .agg #[.int .i64 31, .int .u64 1]) (.buildS ze360 pl360 rfl rfl) (by rfl)) rfl rfl ?_
  refine RL.ev (.as (v' := .agg #[.int .i64 30, .int .u64 13787848793156543929, .int .i64 27, .int .u64 10723151780598845931, .int .i64 31, .int .u64 1]) (.buildA ze361 ar361 rfl rfl) (by rfl)) rfl rfl ?_
  refine RL.ev (.move rfl) rfl rfl ?_
  refine RL.nil (RC.back ?_)
  refine RC.block ?_
  refine RC.unroll 5 ?_
  refine RC.seq ?_
  refine RC.region rfl ?_
  refine RL.ev (.bin rfl rfl rfl) rfl rfl ?_
  refine RL.nil (RC.back ?_)
  refine RC.seq ?_
  refine RC.cond_t rfl ?_
  refine RC.skip (RC.back ?_)
  refine RC.seq ?_
  refine RC.block ?_
  refine RC.seq ?_
  refine RC.region rfl ?_
  refine RL.ev (.as (v' := .agg #[.int .i64 30, .int .u64 13787848793156543929]) (.indexN ar361 sh360 rfl rfl (by decide)) (by rfl)) rfl rfl ?_
  refine RL.alloc ze360 rfl rfl (fun b_4 w_4 e_4 z_4 hb_4 s_4 => ?_)
  have ge_4 := S.le e_4
  have S := S.trans s_4
  refine RL.store sh360 rfl rfl rfl hb_4 (by exact Nat.le_of_ble_eq_true rfl) (by rfl) rfl (fun w1 z1 hb_4 a1 => ?_)
  have S := S.upd a1 ge_4
  refine RL.nil (RC.back ?_)
  refine RC.draw rfl mxo (by kernel_rfl) ?_
  refine RQ.ev (.move rfl) rfl rfl ?_
  refine RQ.ev (.move rfl) rfl rfl ?_
  refine RQ.ev (.field0 fo360_0 rfl) rfl rfl ?_
  refine RQ.ev (.load1 sh3 rfl (hb_4.cell rfl)) rfl rfl ?_
  refine RQ.ev (.as (v' := _) (.shr rfl rfl (by decide)) (by exact u64_shr _ 30 (by decide))) rfl rfl ?_
  refine RQ.ev (.as (v' := _) (.bin rfl rfl rfl) (by exact u64_xor _ _)) rfl rfl ?_
  refine RQ.ev (.field0 fo360_1 rfl) rfl rfl ?_
  refine RQ.ev (.load1 sh30 rfl (hb_4.cell rfl)) rfl rfl ?_
  refine RQ.ev (.as (v' := _) (.bin rfl rfl rfl) (by exact u64_mul _ 13787848793156543929)) rfl rfl ?_
  refine RQ.ev (.assign rfl) rfl rfl ?_
  refine RQ.nil (fun w2 s3 => RC.back ?_)
  have S := S.trans s3
  have hb_4 := hb_4.sub s3
  refine RC.region rfl ?_
  refine RL.ev (.bin rfl rfl rfl) rfl rfl ?_
  refine RL.ev (.move rfl) rfl rfl ?_
  refine RL.nil (RC.again ?_)
  refine RC.seq ?_
  refine RC.region rfl ?_
  refine RL.ev (.bin rfl rfl rfl) rfl rfl ?_
  refine RL.nil (RC.back ?_)
  refine RC.seq ?_
  refine RC.cond_t rfl ?_
  refine RC.skip (RC.back ?_)
  refine RC.seq ?_
  refine RC.block ?_
  refine RC.seq ?_
  refine RC.region rfl ?_
  refine RL.ev (.as (v' := .agg #[.int .i64 27, .int .u64 10723151780598845931]) (.indexN ar361 sh360 rfl rfl (by decide)) (by rfl)) rfl rfl ?_
  refine RL.alloc ze360 rfl rfl (fun b_4_2 w_4_2 e_4_2 z_4_2 hb_4_2 s_4_2 => ?_)
  have ge_4_2 := S.le e_4_2
  have n_4__4_2 := hb_4.ne e_4_2
  have S := S.trans s_4_2
  have hb_4 := hb_4.sub s_4_2
  refine RL.store sh360 rfl rfl rfl hb_4_2 (by exact Nat.le_of_ble_eq_true rfl) (by rfl) rfl (fun w4 z4 hb_4_2 a4 => ?_)
  have S := S.upd a4 ge_4_2
  have hb_4 := hb_4.upd a4 n_4__4_2
  refine RL.nil (RC.back ?_)
  refine RC.draw rfl mxo (by kernel_rfl) ?_
  refine RQ.ev (.move rfl) rfl rfl ?_
  refine RQ.ev (.move rfl) rfl rfl ?_
  refine RQ.ev (.field0 fo360_0 rfl) rfl rfl ?_
  refine RQ.ev (.load1 sh3 rfl (hb_4_2.cell rfl)) rfl rfl ?_
  refine RQ.ev (.as (v' := _) (.shr rfl rfl (by decide)) (by exact u64_shr _ 27 (by decide))) rfl rfl ?_
  refine RQ.ev (.as (v' := _) (.bin rfl rfl rfl) (by exact u64_xor _ _)) rfl rfl ?_
  refine RQ.ev (.field0 fo360_1 rfl) rfl rfl ?_
  refine RQ.ev (.load1 sh30 rfl (hb_4_2.cell rfl)) rfl rfl ?_
  refine RQ.ev (.as (v' := _) (.bin rfl rfl rfl) (by exact u64_mul _ 10723151780598845931)) rfl rfl ?_
  refine RQ.ev (.assign rfl) rfl rfl ?_
  refine RQ.nil (fun w5 s6 => RC.back ?_)
  have S := S.trans s6
  have hb_4 := hb_4.sub s6
  have hb_4_2 := hb_4_2.sub s6
  refine RC.region rfl ?_
  refine RL.ev (.bin rfl rfl rfl) rfl rfl ?_
  refine RL.ev (.move rfl) rfl rfl ?_
  refine RL.nil (RC.again ?_)
  refine RC.seq ?_
  refine RC.region rfl ?_
  refine RL.ev (.bin rfl rfl rfl) rfl rfl ?_
  refine RL.nil (RC.back ?_)
  refine RC.seq ?_
  refine RC.cond_t rfl ?_
  refine RC.skip (RC.back ?_)
  refine RC.seq ?_
  refine RC.block ?_
  refine RC.seq ?_
  refine RC.region rfl ?_
  refine RL.ev (.as (v' := .agg #[.int .i64 31, .int .u64 1]) (.indexN ar361 sh360 rfl rfl (by decide)) (by rfl)) rfl rfl ?_
  refine RL.alloc ze360 rfl rfl (fun b_4_3 w_4_3 e_4_3 z_4_3 hb_4_3 s_4_3 => ?_)
  have ge_4_3 := S.le e_4_3
  have n_4__4_3 := hb_4.ne e_4_3
  have n_4_2__4_3 := hb_4_2.ne e_4_3
  have S := S.trans s_4_3
  have hb_4 := hb_4.sub s_4_3
  have hb_4_2 := hb_4_2.sub s_4_3
  refine RL.store sh360 rfl rfl rfl hb_4_3 (by exact Nat.le_of_ble_eq_true rfl) (by rfl) rfl (fun w7 z7 hb_4_3 a7 => ?_)
  have S := S.upd a7 ge_4_3
  have hb_4 := hb_4.upd a7 n_4__4_3
  have hb_4_2 := hb_4_2.upd a7 n_4_2__4_3
  refine RL.nil (RC.back ?_)
  refine RC.draw rfl mxo (by kernel_rfl) ?_
  refine RQ.ev (.move rfl) rfl rfl ?_
  refine RQ.ev (.move rfl) rfl rfl ?_
  refine RQ.ev (.field0 fo360_0 rfl) rfl rfl ?_
  refine RQ.ev (.load1 sh3 rfl (hb_4_3.cell rfl)) rfl rfl ?_
  refine RQ.ev (.as (v' := _) (.shr rfl rfl (by decide)) (by exact u64_shr _ 31 (by decide))) rfl rfl ?_
  refine RQ.ev (.as (v' := _) (.bin rfl rfl rfl) (by exact u64_xor _ _)) rfl rfl ?_
  refine RQ.ev (.field0 fo360_1 rfl) rfl rfl ?_
  refine RQ.ev (.load1 sh30 rfl (hb_4_3.cell rfl)) rfl rfl ?_
  refine RQ.ev (.as (v' := _) (.bin rfl rfl rfl) (by exact u64_mul _ 1)) rfl rfl ?_
  refine RQ.ev (.assign rfl) rfl rfl ?_
  refine RQ.nil (fun w8 s9 => RC.back ?_)
  have S := S.trans s9
  have hb_4 := hb_4.sub s9
  have hb_4_2 := hb_4_2.sub s9
  have hb_4_3 := hb_4_3.sub s9
  refine RC.region rfl ?_
  refine RL.ev (.bin rfl rfl rfl) rfl rfl ?_
  refine RL.ev (.move rfl) rfl rfl ?_
  refine RL.nil (RC.again ?_)
  refine RC.seq ?_
  refine RC.region rfl ?_
  refine RL.ev (.bin rfl rfl rfl) rfl rfl ?_
  refine RL.nil (RC.back ?_)
  refine RC.seq ?_
  refine RC.cond_f rfl ?_
  refine RC.exit rfl (RC.back ?_)
  refine RC.seq ?_
  refine RC.region rfl ?_
  refine RL.ev (.move rfl) rfl rfl ?_
  refine RL.ev (.assign rfl) rfl rfl ?_
  refine RL.nil (RC.back ?_)
  refine RC.done (rs := [.tmp 2]) (vs := [_]) rfl rfl ⟨rfl, trivial⟩ ?_
  -- end 1
  exact ⟨rfl, S⟩

def rankOf (k : Int) : BitVec 64 := mixOf (BitVec.ofInt 64 k + 7#64)
def hashOf (k : Int) : Nat := (rankOf k).toNat % 1048576
theorem hashOf_lt (k : Int) : hashOf k < 1048576 := Nat.mod_lt _ (by decide)
def beforeK (a b : Int) : Bool := decide ((rankOf a).toNat < (rankOf b).toNat ∨ (rankOf a).toNat = (rankOf b).toNat ∧ a < b)

theorem c_rank (k : Int) (w : World) : FC Tryz.prog 240 [.int .i64 k] w (Val (u64 (rankOf k)) w) := by
  refine FC.intro Tryz.func240 rfl Tryz.ntmps240 rfl ?_
  have S := Sub.refl w
  refine RC.seq ?_
  refine RC.region rfl ?_
  refine RL.ev (.assign rfl) rfl rfl ?_
  refine RL.nil (RC.back ?_)
  refine RC.seq ?_
  refine RC.region rfl ?_
  refine RL.ev (.move rfl) rfl rfl ?_
  refine RL.ev (.as (v' := _) (.conv i2 i30 rfl) (by exact u64_of _)) rfl rfl ?_
  refine RL.ev (.as (v' := _) (.bin rfl rfl rfl) (by exact u64_add _ 7)) rfl rfl ?_
  refine RL.call rfl ok276 (c_mixOf _ w) rfl rfl ?_
  rintro _ w1 ⟨rfl, s2⟩
  have S := S.trans s2
  refine RL.ev (.assign rfl) rfl rfl ?_
  refine RL.nil (RC.back ?_)
  refine RC.done (rs := [.tmp 2]) (vs := [_]) rfl rfl ⟨rfl, trivial⟩ ?_
  -- end 1
  exact ⟨rfl, S⟩
theorem c_hash (k : Int) (w : World) : FC Tryz.prog 183 [.int .i64 k] w (Val (.int .i64 (hashOf k)) w) := by
  refine FC.intro Tryz.func183 rfl Tryz.ntmps183 rfl ?_
  have S := Sub.refl w
  have hlt := hashOf_lt k
  refine RC.seq ?_
  refine RC.region rfl ?_
  refine RL.ev (.assign rfl) rfl rfl ?_
  refine RL.nil (RC.back ?_)
  refine RC.seq ?_
  refine RC.region rfl ?_
  refine RL.ev (.move rfl) rfl rfl ?_
  refine RL.call rfl ok240 (c_rank _ w) rfl rfl ?_
  rintro _ w1 ⟨rfl, s2⟩
  have S := S.trans s2
  refine RL.ev (.as (v' := .int .u64 (hashOf k : Int)) (.bin rfl rfl rfl) (by exact u64_low20 _)) rfl rfl ?_
  refine RL.ev (.as (.conv i30 i3 rfl) (wi64 (y := (hashOf k : Int)) (by rfl) (by omega))) rfl rfl ?_
  refine RL.ev (.assign rfl) rfl rfl ?_
  refine RL.nil (RC.back ?_)
  refine RC.done (rs := [.tmp 2]) (vs := [_]) rfl rfl ⟨rfl, trivial⟩ ?_
  -- end 1
  exact ⟨rfl, S⟩
theorem c_before (a b : Int) (w : World) : FC Tryz.prog 195 [.int .i64 a, .int .i64 b] w (Val (.bool (beforeK a b)) w) := by
  refine FC.intro Tryz.func195 rfl Tryz.ntmps195 rfl ?_
  have S := Sub.refl w
  refine RC.seq ?_
  refine RC.region rfl ?_
  refine RL.ev (.assign rfl) rfl rfl ?_
  refine RL.nil (RC.back ?_)
  refine RC.seq ?_
  refine RC.region rfl ?_
  refine RL.ev (.move rfl) rfl rfl ?_
  refine RL.call rfl ok240 (c_rank _ w) rfl rfl ?_
  rintro _ w1 ⟨rfl, s2⟩
  have S := S.trans s2
  refine RL.ev (.move rfl) rfl rfl ?_
  refine RL.call rfl ok240 (c_rank _ w1) rfl rfl ?_
  rintro _ w3 ⟨rfl, s4⟩
  have S := S.trans s4
  refine RL.ev (.assign rfl) rfl rfl ?_
  refine RL.ev (.assign rfl) rfl rfl ?_
  refine RL.nil (RC.back ?_)
  refine RC.seq ?_
  refine RC.region rfl ?_
  refine RL.ev (.move rfl) rfl rfl ?_
  refine RL.ev (.move rfl) rfl rfl ?_
  refine RL.ev (.bin rfl rfl rfl) rfl rfl ?_
  refine RL.ev (.move rfl) rfl rfl ?_
  refine RL.split 14 rfl (fun h5 => ?_) (fun h5 => ?_)
  ·
    refine RL.off rfl rfl ?_
    refine RL.off rfl rfl ?_
    refine RL.off rfl rfl ?_
    refine RL.off rfl rfl ?_
    refine RL.off rfl rfl ?_
    refine RL.off rfl rfl ?_
    refine RL.off rfl rfl ?_
    refine RL.off rfl rfl ?_
    refine RL.ev (.pick_t rfl rfl) rfl rfl ?_
    refine RL.ev (.assign rfl) rfl rfl ?_
    refine RL.nil (RC.back ?_)
    refine RC.done (rs := [.tmp 4]) (vs := [_]) rfl rfl ⟨rfl, trivial⟩ ?_
    -- end 1
    exact ⟨by rw [beforeK, decide_eq_true (.inl (by omega))]; rfl, S⟩
  ·
    refine RL.ev (.move rfl) rfl rfl ?_
    refine RL.ev (.move rfl) rfl rfl ?_
    refine RL.ev (.bin rfl rfl rfl) rfl rfl ?_
    refine RL.ev (.move rfl) rfl rfl ?_
    refine RL.split 18 rfl (fun h6 => ?_) (fun h6 => ?_)
    ·
      refine RL.ev (.move rfl) rfl rfl ?_
      refine RL.ev (.move rfl) rfl rfl ?_
      refine RL.ev (.bin rfl rfl rfl) rfl rfl ?_
      refine RL.ev (.pick_t rfl rfl) rfl rfl ?_
      refine RL.ev (.pick_f rfl rfl) rfl rfl ?_
      refine RL.ev (.assign rfl) rfl rfl ?_
      refine RL.nil (RC.back ?_)
      refine RC.done (rs := [.tmp 4]) (vs := [_]) rfl rfl ⟨rfl, trivial⟩ ?_
      -- end 2
      refine ⟨?_, S⟩
      show Value.bool _ = _
      congr 1
      rw [beforeK, decide_eq_decide]
      constructor
      · exact fun h => .inr ⟨by omega, h⟩
      · exact fun h => h.elim (fun h => absurd h (by omega)) (·.2)
    ·
      refine RL.off rfl rfl ?_
      refine RL.off rfl rfl ?_
      refine RL.off rfl rfl ?_
      refine RL.ev (.pick_f rfl rfl) rfl rfl ?_
      refine RL.ev (.pick_f rfl rfl) rfl rfl ?_
      refine RL.ev (.assign rfl) rfl rfl ?_
      refine RL.nil (RC.back ?_)
      refine RC.done (rs := [.tmp 4]) (vs := [_]) rfl rfl ⟨rfl, trivial⟩ ?_
      -- end 3
      refine ⟨?_, S⟩
      show Value.bool _ = _
      congr 1
      exact (decide_eq_false (by omega)).symm
end Go.Proofs.YtbjmllnddanniaaGreat
set_option linter.unusedVariables false
set_option linter.unusedSimpArgs false
namespace Go.Proofs.YtbjmllnddanniaaGreat
open Go Go.XL
theorem befK_trans {a b c : Int} (h1 : beforeK a b = true) (h2 : beforeK b c = true) : beforeK a c = true := by
  unfold beforeK at *
  rw [decide_eq_true_iff] at *
  omega
theorem befK_total {a b : Int} (h : ¬ a = b) : beforeK a b = true ∨ beforeK b a = true := by
  unfold beforeK
  rw [decide_eq_true_iff, decide_eq_true_iff]
  omega

structure It where
  k : Int
  v : Int
  deriving DecidableEq
def It.cells (x : It) : List Value := [.int .i64 x.k, .int .i64 x.v]
def It.val (x : It) : Value := .agg x.cells.toArray
def It.ok (x : It) : Prop := I64 x.k ∧ I64 x.v
def it0 : It := ⟨0, 0⟩
/-- keys that rise -/
def Srt (l : List It) : Prop := l.Pairwise (fun x y => x.k < y.k)
theorem Srt.split {L R : List It} {it : It} (h : Srt (L ++ it :: R)) : Srt L ∧ Srt R ∧ (∀ y ∈ L, y.k < it.k) ∧ (∀ y ∈ R, it.k < y.k) := by
  unfold Srt at *
  rw [List.pairwise_append, List.pairwise_cons] at h
  exact ⟨h.1, h.2.1.2, fun y hy => h.2.2 y hy it (by simp), h.2.1.1⟩
theorem Srt.join {L R : List It} {it : It} (h1 : Srt L) (h2 : Srt R) (h3 : ∀ y ∈ L, y.k < it.k) (h4 : ∀ y ∈ R, it.k < y.k) : Srt (L ++ it :: R) := by
  unfold Srt at *
  rw [List.pairwise_append, List.pairwise_cons]
  refine ⟨h1, ⟨h4, h2⟩, fun x hx y hy => ?_⟩
  rcases List.mem_cons.1 hy with e | hy
  · rw [e]; exact h3 x hx
  · have := h3 x hx; have := h4 y hy; omega

def kAt (l : List It) (i : Nat) : Int := (l.getD i it0).k
def topAt (l : List It) : Nat → Int
  | 0 => -1
  | i + 1 => if topAt l i < 0 ∨ beforeK (kAt l i) (kAt l (topAt l i).toNat) = true then i else topAt l i
def topL (l : List It) : Int := topAt l l.length
theorem kAt_get {l : List It} {i : Nat} {x : It} (h : l[i]? = some x) : kAt l i = x.k := by rw [kAt, List.getD_eq_getElem?_getD, h]; rfl
theorem topAt_rng (l : List It) : ∀ i, -1 ≤ topAt l i ∧ topAt l i < i ∧ (0 < i → 0 ≤ topAt l i)
  | 0 => by simp [topAt]
  | i + 1 => by
    have := topAt_rng l i
    unfold topAt
    split
    · omega
    · rename_i h; omega
theorem topAt_best {l : List It} (hs : Srt l) : ∀ i, i ≤ l.length → ∀ j, j < i → (j : Int) ≠ topAt l i → beforeK (kAt l (topAt l i).toNat) (kAt l j) = true
  | 0, _, j, hj, _ => absurd hj (by omega)
  | i + 1, hi, j, hj, hne => by
    have hr := topAt_rng l i
    have ih := topAt_best hs i (by omega)
    unfold topAt at hne ⊢
    split
    · rename_i h
      rw [if_pos h] at hne
      rw [Int.toNat_natCast]
      have hji : j < i := by omega
      rcases h with h | h
      · omega
      · by_cases e : (j : Int) = topAt l i
        · rw [← e, Int.toNat_natCast] at h; exact h
        · exact befK_trans h (ih j hji e)
    · rename_i h
      rw [if_neg h] at hne
      by_cases e : j = i
      · subst e
        have hlt : (topAt l j).toNat < j := by omega
        have hkk : kAt l (topAt l j).toNat < kAt l j := by
          obtain ⟨x, hx⟩ := getSome (l := l) (i := (topAt l j).toNat) (by omega)
          obtain ⟨y, hy⟩ := getSome (l := l) (i := j) (by omega)
          rw [kAt_get hx, kAt_get hy]
          have := List.pairwise_iff_getElem.1 hs (topAt l j).toNat j (by omega) (by omega) hlt
          rw [getElem_of hx, getElem_of hy] at this
          exact this
        rcases befK_total (show ¬ kAt l (topAt l j).toNat = kAt l j by omega) with h2 | h2
        · exact h2
        · exact absurd (.inr h2) h
      · exact ih j (by omega) hne
theorem topL_rng {l : List It} (h : 0 < l.length) : 0 ≤ topL l ∧ topL l < l.length := by
  have := topAt_rng l l.length
  unfold topL; omega
theorem topL_neg {l : List It} (h : topL l < 0) : l = [] := by
  rcases Nat.eq_zero_or_pos l.length with e | e
  · exact List.eq_nil_of_length_eq_zero e
  · have := topL_rng e; omega
theorem split_at {α : Type} {l : List α} {i : Nat} {x : α} (h : l[i]? = some x) : l = l.take i ++ x :: l.drop (i + 1) := by
  have h1 := lt_of_get h
  conv => lhs; rw [← List.take_append_drop i l]
  rw [List.drop_eq_getElem_cons h1, getElem_of h]
theorem top_all {l : List It} (hs : Srt l) (hl : 0 < l.length) {it : It} (hit : l[(topL l).toNat]? = some it) : ∀ y ∈ l.take (topL l).toNat ++ l.drop ((topL l).toNat + 1), beforeK it.k y.k = true := by
  intro y hy
  have hr := topL_rng hl
  have key : ∀ j : Nat, l[j]? = some y → (j : Int) ≠ topL l → beforeK it.k y.k = true := fun j hj hne => by
    have := topAt_best hs l.length (Nat.le_refl _) j (lt_of_get hj) hne
    unfold topL at hit
    rw [kAt_get hit, kAt_get hj] at this
    exact this
  rcases List.mem_append.1 hy with hy | hy
  · obtain ⟨j, hj⟩ := List.getElem?_of_mem hy
    have hjl := lt_of_get hj
    rw [List.length_take] at hjl
    rw [List.getElem?_take_of_lt (by omega)] at hj
    exact key j hj (by omega)
  · obtain ⟨j, hj⟩ := List.getElem?_of_mem hy
    rw [List.getElem?_drop] at hj
    exact key _ hj (by omega)
def tNode (g k v s a b : Int) : Node := ⟨1, g, k, v, s, a, b, 0, 0, 0, 0, 0, 0, 0, 0, 0⟩
inductive IsT (A : Ar) : Int → List It → Prop
  | nil : IsT A 0 []
  | node {r g a b : Int} {it : It} {L R : List It} : getA A r = some (tNode g it.k it.v ((L.length : Int) + R.length + 1) a b) → IsT A a L → IsT A b R → (∀ y ∈ L ++ R, beforeK it.k y.k = true) → Srt (L ++ it :: R) → IsT A r (L ++ it :: R)
theorem getA_0 (A : Ar) : getA A 0 = none := getA_neg (.inl (by decide))
theorem IsT.srt {A : Ar} {r : Int} {l : List It} (h : IsT A r l) : Srt l := by
  cases h with
  | nil => exact List.Pairwise.nil
  | node _ _ _ _ h => exact h
theorem IsT.zero {A : Ar} {l : List It} (h : IsT A 0 l) : l = [] := by
  cases h with
  | nil => rfl
  | node h1 => rw [getA_0] at h1; cases h1
theorem IsT.ne {A : Ar} {r : Int} {l : List It} (h : IsT A r l) (hr : ¬ r = 0) : ∃ g a b it L R, l = L ++ it :: R ∧ getA A r = some (tNode g it.k it.v ((L.length : Int) + R.length + 1) a b) ∧ IsT A a L ∧ IsT A b R ∧ (∀ y ∈ L ++ R, beforeK it.k y.k = true) ∧ Srt (L ++ it :: R) := by
  cases h with
  | nil => exact absurd rfl hr
  | node h1 h2 h3 h4 h5 => exact ⟨_, _, _, _, _, _, rfl, h1, h2, h3, h4, h5⟩
/-- how many keys a reference has, as its node tells -/
theorem IsT.size {A : Ar} {r : Int} {l : List It} (h : IsT A r l) : (getA A r = none → l.length = 0) ∧ ∀ x, getA A r = some x → x.s = l.length := by
  cases h with
  | nil => exact ⟨fun _ => rfl, fun x h => (by rw [getA_0] at h; cases h)⟩
  | node h1 => exact ⟨fun h => (by rw [h1] at h; cases h), fun x h => (by rw [h1] at h; cases h; simp [tNode]; omega)⟩

def rowF (A : Ar) : Nat → Int → Int → List It
  | 0, _, _ => []
  | k + 1, r, most => match getA A r with
    | none => []
    | some x => if most ≤ 0 then [] else rowF A k x.k0 (most - 1) ++ ⟨x.n, x.v⟩ :: rowF A k x.k1 (most - ((rowF A k x.k0 (most - 1)).length + 1))
theorem rowF_no {A : Ar} {k : Nat} {r most : Int} (h : getA A r = none ∨ most ≤ 0) : rowF A (k + 1) r most = [] := by
  rw [rowF]
  split
  · rfl
  · rename_i x hx
    rw [if_pos (h.resolve_left (by rw [hx]; intro e; cases e))]
theorem rowF_yes {A : Ar} {k : Nat} {r most : Int} {x : Node} (h : getA A r = some x) (hm : ¬ most ≤ 0) : rowF A (k + 1) r most = rowF A k x.k0 (most - 1) ++ ⟨x.n, x.v⟩ :: rowF A k x.k1 (most - ((rowF A k x.k0 (most - 1)).length + 1)) := by
  rw [rowF, h]; exact if_neg hm
theorem rowF_isT {A : Ar} {r : Int} {l : List It} (h : IsT A r l) : ∀ (k : Nat) (most : Int), (l.length : Int) ≤ most → most < k → rowF A k r most = l := by
  induction h with
  | nil => intro k most h1 h2; cases k with
    | zero => rfl
    | succ k => exact rowF_no (.inl (getA_0 A))
  | @node r g a b it L R h1 h2 h3 h4 h5 ih1 ih2 =>
    intro k most hl hk
    simp only [List.length_append, List.length_cons] at hl
    cases k with
    | zero => omega
    | succ k =>
      rw [rowF_yes h1 (by omega)]
      have e1 := ih1 k (most - 1) (by omega) (by omega)
      simp only [tNode]
      rw [e1, ih2 k (most - ((L.length : Int) + 1)) (by omega) (by omega)]
theorem IsT.unique {A : Ar} {r : Int} {l m : List It} (h : IsT A r l) (h2 : IsT A r m) : l = m := by
  have h1 := rowF_isT h ((l.length + m.length) + 1) ((l.length + m.length : Nat) : Int) (by omega) (by omega)
  rw [rowF_isT h2 ((l.length + m.length) + 1) ((l.length + m.length : Nat) : Int) (by omega) (by omega)] at h1
  exact h1.symm

theorem Srt.take {l : List It} (h : Srt l) (k : Nat) : Srt (l.take k) := List.Pairwise.sublist (List.take_sublist _ _) h
theorem Srt.drop {l : List It} (h : Srt l) (k : Nat) : Srt (l.drop k) := List.Pairwise.sublist (List.drop_sublist _ _) h
end Go.Proofs.YtbjmllnddanniaaGreat
set_option linter.unusedVariables false
set_option linter.unusedSimpArgs false
namespace Go.Proofs.YtbjmllnddanniaaGreat
open Go Go.XL
structure Bnd where
  low : Int
  high : Int
  hasLow : Bool
  hasHigh : Bool
  above : Int
  hasAbove : Bool
def Bnd.cells (b : Bnd) : List Value := [.int .i64 b.low, .int .i64 b.high, .bool b.hasLow, .bool b.hasHigh, .int .i64 b.above, .bool b.hasAbove]
def bnd0 : Bnd := ⟨0, 0, false, false, 0, false⟩
def Bnd.bad (b : Bnd) (n : Int) : Prop := b.hasLow = true ∧ n ≤ b.low ∨ b.hasHigh = true ∧ b.high ≤ n ∨ b.hasAbove = true ∧ beforeK b.above n = false
instance (b : Bnd) (n : Int) : Decidable (b.bad n) := inferInstanceAs (Decidable (_ ∨ _))
def Bnd.below (b : Bnd) (n : Int) : Bnd := { b with above := n, hasAbove := true }
def Bnd.lo (b : Bnd) (n : Int) : Bnd := { b with above := n, hasAbove := true, high := n, hasHigh := true }
def Bnd.hi (b : Bnd) (n : Int) : Bnd := { b with above := n, hasAbove := true, low := n, hasLow := true }
def tBare (x : Node) : Node := tNode x.gen x.n x.v x.s x.k0 x.k1
def mayF (A : Ar) : Nat → Int → Bnd → Int → Int
  | 0, _, _, _ => -1
  | k + 1, r, b, left => if r = 0 then 0 else match getA A r with
    | none => -1
    | some x => if left = 0 ∨ ¬ x.kind = 1 ∨ b.bad x.n then -1 else
      if mayF A k x.k0 (b.lo x.n) (left - 1) < 0 ∨ ¬ tBare x = x then -1 else
      if mayF A k x.k1 (b.hi x.n) (left - 1 - mayF A k x.k0 (b.lo x.n) (left - 1)) < 0 ∨ ¬ mayF A k x.k0 (b.lo x.n) (left - 1) + mayF A k x.k1 (b.hi x.n) (left - 1 - mayF A k x.k0 (b.lo x.n) (left - 1)) + 1 = x.s then -1 else
      mayF A k x.k0 (b.lo x.n) (left - 1) + mayF A k x.k1 (b.hi x.n) (left - 1 - mayF A k x.k0 (b.lo x.n) (left - 1)) + 1
section
variable {A : Ar} {k : Nat} {r left p q : Int} {b : Bnd} {x : Node}
theorem mayF_0 : mayF A (k + 1) 0 b left = 0 := by rw [mayF]; exact if_pos rfl
theorem mayF_none (hr : ¬ r = 0) (h : getA A r = none) : mayF A (k + 1) r b left = -1 := by rw [mayF, if_neg hr, h]
theorem mayF_bad (hr : ¬ r = 0) (h : getA A r = some x) (hb : left = 0 ∨ ¬ x.kind = 1 ∨ b.bad x.n) : mayF A (k + 1) r b left = -1 := by rw [mayF, if_neg hr, h]; exact if_pos hb
theorem mayF_left (hr : ¬ r = 0) (h : getA A r = some x) (hb : ¬ (left = 0 ∨ ¬ x.kind = 1 ∨ b.bad x.n)) (hp : mayF A k x.k0 (b.lo x.n) (left - 1) < 0 ∨ ¬ tBare x = x) : mayF A (k + 1) r b left = -1 := by
  rw [mayF, if_neg hr, h]; simp only []; rw [if_neg hb, if_pos hp]
theorem mayF_right (hr : ¬ r = 0) (h : getA A r = some x) (hb : ¬ (left = 0 ∨ ¬ x.kind = 1 ∨ b.bad x.n)) (ep : mayF A k x.k0 (b.lo x.n) (left - 1) = p) (hp : ¬ (p < 0 ∨ ¬ tBare x = x)) (eq : mayF A k x.k1 (b.hi x.n) (left - 1 - p) = q) (hq : q < 0 ∨ ¬ p + q + 1 = x.s) : mayF A (k + 1) r b left = -1 := by
  rw [mayF, if_neg hr, h]; simp only []; rw [if_neg hb, ep, eq, if_neg hp, if_pos hq]
theorem mayF_yes (hr : ¬ r = 0) (h : getA A r = some x) (hb : ¬ (left = 0 ∨ ¬ x.kind = 1 ∨ b.bad x.n)) (ep : mayF A k x.k0 (b.lo x.n) (left - 1) = p) (hp : ¬ (p < 0 ∨ ¬ tBare x = x)) (eq : mayF A k x.k1 (b.hi x.n) (left - 1 - p) = q) (hq : ¬ (q < 0 ∨ ¬ p + q + 1 = x.s)) : mayF A (k + 1) r b left = p + q + 1 := by
  rw [mayF, if_neg hr, h]; simp only []; rw [if_neg hb, ep, eq, if_neg hp, if_neg hq]
end
theorem mayF_le (A : Ar) : ∀ (k : Nat) (r : Int) (b : Bnd) (left : Int), 0 ≤ left → mayF A k r b left ≤ left ∧ -1 ≤ mayF A k r b left
  | 0, _, _, _, h => by rw [mayF]; omega
  | k + 1, r, b, left, h => by
    by_cases hr : r = 0
    · rw [hr, mayF_0]; omega
    cases hg : getA A r with
    | none => rw [mayF_none hr hg]; omega
    | some x =>
      by_cases hb : left = 0 ∨ ¬ x.kind = 1 ∨ b.bad x.n
      · rw [mayF_bad hr hg hb]; omega
      have hl : 0 ≤ left - 1 := by have : ¬ left = 0 := fun e => hb (.inl e); omega
      have h1 := mayF_le A k x.k0 (b.lo x.n) (left - 1) hl
      by_cases hp : mayF A k x.k0 (b.lo x.n) (left - 1) < 0 ∨ ¬ tBare x = x
      · rw [mayF_left hr hg hb hp]; omega
      have h2 := mayF_le A k x.k1 (b.hi x.n) (left - 1 - mayF A k x.k0 (b.lo x.n) (left - 1)) (by omega)
      by_cases hq : mayF A k x.k1 (b.hi x.n) (left - 1 - mayF A k x.k0 (b.lo x.n) (left - 1)) < 0 ∨ ¬ mayF A k x.k0 (b.lo x.n) (left - 1) + mayF A k x.k1 (b.hi x.n) (left - 1 - mayF A k x.k0 (b.lo x.n) (left - 1)) + 1 = x.s
      · rw [mayF_right hr hg hb rfl hp rfl hq]; omega
      · rw [mayF_yes hr hg hb rfl hp rfl hq]
        have hp0 : ¬ mayF A k x.k0 (b.lo x.n) (left - 1) < 0 := fun e => hp (.inl e)
        have hq0 : ¬ mayF A k x.k1 (b.hi x.n) (left - 1 - mayF A k x.k0 (b.lo x.n) (left - 1)) < 0 := fun e => hq (.inl e)
        omega
/-- within bounds -/
def Bnd.holds (b : Bnd) (n : Int) : Prop := (b.hasLow = true → b.low < n) ∧ (b.hasHigh = true → n < b.high) ∧ (b.hasAbove = true → beforeK b.above n = true)
theorem holds_not {b : Bnd} {n : Int} : b.holds n ↔ ¬ b.bad n := by
  unfold Bnd.holds Bnd.bad
  constructor
  · rintro ⟨h1, h2, h3⟩ (⟨e1, e2⟩ | ⟨e1, e2⟩ | ⟨e1, e2⟩)
    · have := h1 e1; omega
    · have := h2 e1; omega
    · rw [h3 e1] at e2; cases e2
  · intro h
    refine ⟨fun e => ?_, fun e => ?_, fun e => ?_⟩
    · exact Int.not_le.1 fun h2 => h (.inl ⟨e, h2⟩)
    · exact Int.not_le.1 fun h2 => h (.inr (.inl ⟨e, h2⟩))
    · cases h2 : beforeK b.above n with
      | true => rfl
      | false => exact absurd (.inr (.inr ⟨e, h2⟩)) h
theorem may_sound (A : Ar) : ∀ (k : Nat) (r : Int) (b : Bnd) (left : Int), 0 ≤ left → left < k → 0 ≤ mayF A k r b left → ∃ l, IsT A r l ∧ (l.length : Int) = mayF A k r b left ∧ ∀ y ∈ l, b.holds y.k
  | 0, _, _, _, _, h, _ => absurd h (by omega)
  | k + 1, r, b, left, h0, hk, hm => by
    by_cases hr : r = 0
    · rw [hr, mayF_0]; exact ⟨[], .nil, rfl, by simp⟩
    cases hg : getA A r with
    | none => rw [mayF_none hr hg] at hm; omega
    | some x =>
      by_cases hb : left = 0 ∨ ¬ x.kind = 1 ∨ b.bad x.n
      · rw [mayF_bad hr hg hb] at hm; omega
      have hl : 0 ≤ left - 1 := by have : ¬ left = 0 := fun e => hb (.inl e); omega
      by_cases hp : mayF A k x.k0 (b.lo x.n) (left - 1) < 0 ∨ ¬ tBare x = x
      · rw [mayF_left hr hg hb hp] at hm; omega
      have h1 := mayF_le A k x.k0 (b.lo x.n) (left - 1) hl
      by_cases hq : mayF A k x.k1 (b.hi x.n) (left - 1 - mayF A k x.k0 (b.lo x.n) (left - 1)) < 0 ∨ ¬ mayF A k x.k0 (b.lo x.n) (left - 1) + mayF A k x.k1 (b.hi x.n) (left - 1 - mayF A k x.k0 (b.lo x.n) (left - 1)) + 1 = x.s
      · rw [mayF_right hr hg hb rfl hp rfl hq] at hm; omega
      rw [mayF_yes hr hg hb rfl hp rfl hq]
      have hp0 : ¬ mayF A k x.k0 (b.lo x.n) (left - 1) < 0 := fun e => hp (.inl e)
      have hq0 : ¬ mayF A k x.k1 (b.hi x.n) (left - 1 - mayF A k x.k0 (b.lo x.n) (left - 1)) < 0 := fun e => hq (.inl e)
      obtain ⟨L, hL, eL, bL⟩ := may_sound A k x.k0 (b.lo x.n) (left - 1) hl (by omega) (by omega)
      obtain ⟨R, hR, eR, bR⟩ := may_sound A k x.k1 (b.hi x.n) (left - 1 - mayF A k x.k0 (b.lo x.n) (left - 1)) (by omega) (by omega) (by omega)
      have hbx : b.holds x.n := holds_not.2 fun e => hb (.inr (.inr e))
      have hsz : mayF A k x.k0 (b.lo x.n) (left - 1) + mayF A k x.k1 (b.hi x.n) (left - 1 - mayF A k x.k0 (b.lo x.n) (left - 1)) + 1 = x.s := Decidable.not_not.1 fun e => hq (.inr e)
      have hbare : tBare x = x := Decidable.not_not.1 fun e => hp (.inr e)
      refine ⟨L ++ ⟨x.n, x.v⟩ :: R, .node (g := x.gen) (a := x.k0) (b := x.k1) ?_ hL hR (fun y hy => ?_) (Srt.join hL.srt hR.srt (fun y hy => ?_) (fun y hy => ?_)), ?_, fun y hy => ?_⟩
      · rw [hg, show (L.length : Int) + R.length + 1 = x.s by omega]; exact congrArg some hbare.symm
      · rcases List.mem_append.1 hy with hy | hy
        · exact (bL y hy).2.2 rfl
        · exact (bR y hy).2.2 rfl
      · exact (bL y hy).2.1 rfl
      · exact (bR y hy).1 rfl
      · simp only [List.length_append, List.length_cons]; omega
      · rcases List.mem_append.1 hy with hy | hy
        · have h3 := bL y hy
          exact ⟨h3.1, fun e => by have := h3.2.1 rfl; have h4 := hbx.2.1 e; simp only [Bnd.lo] at this; omega, fun e => befK_trans (hbx.2.2 e) (h3.2.2 rfl)⟩
        · rcases List.mem_cons.1 hy with e | hy
          · rw [e]; exact hbx
          · have h3 := bR y hy
            exact ⟨fun e => by have := h3.1 rfl; have h4 := hbx.1 e; simp only [Bnd.hi] at this; omega, h3.2.1, fun e => befK_trans (hbx.2.2 e) (h3.2.2 rfl)⟩
theorem may_complete {A : Ar} {r : Int} {l : List It} (h : IsT A r l) : ∀ (k : Nat) (b : Bnd) (left : Int), (l.length : Int) ≤ left → left < k → (∀ y ∈ l, b.holds y.k) → mayF A k r b left = l.length := by
  induction h with
  | nil => intro k b left h1 h2 _; cases k with
    | zero => omega
    | succ k => exact mayF_0
  | @node r g a b' it L R h1 h2 h3 h4 h5 ih1 ih2 =>
    intro k b left hl hk hb
    simp only [List.length_append, List.length_cons] at hl ⊢
    cases k with
    | zero => omega
    | succ k =>
      have hr : ¬ r = 0 := fun e => by rw [e, getA_0] at h1; cases h1
      have hsp := h5.split
      have hit : b.holds it.k := hb it (by simp)
      have hnb : ¬ (left = 0 ∨ ¬ (tNode g it.k it.v ((L.length : Int) + R.length + 1) a b').kind = 1 ∨ b.bad (tNode g it.k it.v ((L.length : Int) + R.length + 1) a b').n) := by
        rintro (e | e | e)
        · omega
        · exact e rfl
        · exact holds_not.1 hit e
      have e1 : mayF A k a (b.lo it.k) (left - 1) = L.length := ih1 k _ _ (by omega) (by omega) (fun y hy => by
        have := hb y (by simp [hy])
        exact ⟨this.1, fun _ => hsp.2.2.1 y hy, fun _ => h4 y (List.mem_append_left _ hy)⟩)
      have e2 : mayF A k b' (b.hi it.k) (left - 1 - L.length) = R.length := ih2 k _ _ (by omega) (by omega) (fun y hy => by
        have := hb y (by simp [hy])
        exact ⟨fun _ => hsp.2.2.2 y hy, this.2.1, fun _ => h4 y (List.mem_append_right _ hy)⟩)
      rw [mayF_yes hr h1 hnb e1 (by rintro (e | e); omega; exact e rfl) e2 (by rintro (e | e); omega; exact e rfl)]
      omega
theorem bnd0_holds (n : Int) : bnd0.holds n := ⟨fun h => (by cases h), fun h => (by cases h), fun h => (by cases h)⟩
/-- is a reference a map's? -/
def isMap (A : Ar) (r : Int) : Prop := AOk A ∧ ∃ l, IsT A r l ∧ l.length ≤ 200
theorem isMap_iff {A : Ar} {r : Int} (hA : AOk A) : 0 ≤ mayF A 201 r bnd0 200 ↔ isMap A r := by
  constructor
  · intro h
    obtain ⟨l, h1, h2, _⟩ := may_sound A 201 r bnd0 200 (by decide) (by decide) h
    have := (mayF_le A 201 r bnd0 200 (by decide)).1
    exact ⟨hA, l, h1, by omega⟩
  · rintro ⟨_, l, h1, h2⟩
    rw [may_complete h1 201 bnd0 200 (by omega) (by decide) (fun y _ => bnd0_holds _)]
    omega
noncomputable def isMapB (A : Ar) (r : Int) : Bool := @decide (isMap A r) (Classical.propDecidable _)
theorem isMapB_iff (A : Ar) (r : Int) : isMapB A r = true ↔ isMap A r := by unfold isMapB; exact @decide_eq_true_iff _ (Classical.propDecidable _)
theorem isMapB_yes {A : Ar} {r : Int} (h : isMap A r) : isMapB A r = true := (isMapB_iff A r).2 h
theorem isMapB_no {A : Ar} {r : Int} (h : ¬ isMap A r) : isMapB A r = false := by rw [Bool.eq_false_iff]; exact fun e => h ((isMapB_iff A r).1 e)
end Go.Proofs.YtbjmllnddanniaaGreat
set_option linter.unusedVariables false
set_option linter.unusedSimpArgs false
namespace Go.Proofs.YtbjmllnddanniaaGreat
open Go Go.XL
def frC (na fa : Option Addr) (nc fc : Nat) (A : Ar) (bad : Int) : List Value := [.slice na A.nodes.length nc, .slice fa A.free.length fc, .int .i64 bad]
def bare1 (y : Node) (a b : Int) : Node := ⟨y.kind, y.gen, y.n, y.v, y.s, a, b, 0, 0, 0, 0, 0, 0, 0, 0, 0⟩
theorem bare1_iff {y : Node} (h : y.kind = 1) : bare1 y y.k0 y.k1 = y ↔ tBare y = y := by
  unfold bare1 tBare tNode; rw [h]
theorem row_pre {w : World} {b : Nat} {xs ys : List Value} {e : TypeId} (h : Has w b (xs ++ ys) e) : Row w ⟨b, 0, none⟩ xs := fun i v hv => h.row i v (by rw [List.getElem?_append_left (lt_of_get hv)]; exact hv)
def frA (na fa : Option Addr) (nc fc : Nat) (A : Ar) : List Value := [.slice na A.nodes.length nc, .slice fa A.free.length fc]
set_option maxHeartbeats 4000000 in
theorem c_may (A : Ar) (na fa : Option Addr) (nc fc : Nat) (bad : Int) (bf : Nat) : ∀ (k : Nat) (r : Int) (b : Bnd) (left : Int) (w : World), U64 r → 0 ≤ left → left < k → left ≤ 200 → Has w bf (frC na fa nc fc A bad) 130 → ArR w na fa A →
    FC Tryz.prog 188 [.pointer (some ⟨bf, 0, none⟩), .int .u64 r, .agg b.cells.toArray, .int .i64 left] w (Val (.int .i64 (mayF A k r b left)) w) := by
  intro k
  induction k with
  | zero => intro r b left w _ h1 h2; omega
  | succ k ih =>
  intro r b left w hr hl0 hlk hl hbf hA
  obtain ⟨y, e, hgv, hgs, hgn⟩ := getV_form2 A r
  refine FC.intro Tryz.func188 rfl Tryz.ntmps188 rfl ?_
  have S := Sub.refl w
  refine RC.seq ?_
  refine RC.region rfl ?_
  refine RL.box rfl rfl rfl (fun b_6 w_6 e_6 z_6 hb_6 s_6 => ?_)
  have ge_6 := S.le e_6
  have nf__6 := hbf.ne e_6
  have S := S.trans s_6
  have hbf := hbf.sub s_6
  have hb_6 : Has w_6 b_6 (b.cells) _ := hb_6
  refine RL.ev (.assign rfl) rfl rfl ?_
  refine RL.nil (RC.back ?_)
  refine RC.seq ?_
  refine RC.seq ?_
  refine RC.region rfl ?_
  refine RL.ev (.move rfl) rfl rfl ?_
  refine RL.ev (.bin rfl rfl rfl) rfl rfl ?_
  refine RL.nil (RC.back ?_)
  refine RC.cond_dec rfl (fun h1 => ?_) (fun h1 => ?_)
  ·
    have hres : mayF A (k + 1) r b left = 0 := (by rw [h1, mayF_0])
    refine RC.seq ?_
    refine RC.region rfl ?_
    refine RL.ev (.assign rfl) rfl rfl ?_
    refine RL.nil (RC.back ?_)
    refine RC.done (rs := [.tmp 8]) (vs := [_]) rfl rfl ⟨rfl, trivial⟩ ?_
    -- end 1
    exact ⟨congrArg (Value.int .i64) hres.symm, S⟩
  ·
    have hr0 := h1
    refine RC.skip (RC.back ?_)
    refine RC.seq ?_
    refine RC.region rfl ?_
    refine RL.ev (.move rfl) rfl rfl ?_
    refine RL.ev (.nilCheck rfl) rfl rfl ?_
    refine RL.ev (.field0 fo130_0 rfl) rfl rfl ?_
    refine RL.ev (.loadR ([.slice na A.nodes.length nc, .slice fa A.free.length fc]) sh26 rfl (row_pre (xs := frA na fa nc fc A) (ys := [.int .i64 bad]) hbf) rfl) rfl rfl ?_
    refine RL.ev (.move rfl) rfl rfl ?_
    refine RL.call rfl ok125 (c_aGet A na fa nc fc r hr w_6 (hA.sub S)) rfl rfl ?_
    rintro _ w2 ⟨rfl, s3⟩
    have S := S.trans s3
    have hbf := hbf.sub s3
    have hb_6 := hb_6.sub s3
    refine RL.ev (.as (v' := .tuple #[y.val, .int .i64 e]) (.move rfl) (by rw [hgv])) rfl rfl ?_
    refine RL.ev (.extract rfl rfl) rfl rfl ?_
    refine RL.ev (.extract rfl rfl) rfl rfl ?_
    refine RL.alloc ze140 rfl rfl (fun b_9 w_9 e_9 z_9 hb_9 s_9 => ?_)
    have ge_9 := S.le e_9
    have nf__9 := hbf.ne e_9
    have n_6__9 := hb_6.ne e_9
    have S := S.trans s_9
    have hbf := hbf.sub s_9
    have hb_6 := hb_6.sub s_9
    refine RL.store sh140 rfl rfl rfl hb_9 (by exact Nat.le_of_ble_eq_true rfl) (by rfl) rfl (fun w4 z4 hb_9 a4 => ?_)
    have S := S.upd a4 ge_9
    have hbf := hbf.upd a4 nf__9
    have hb_6 := hb_6.upd a4 n_6__9
    have hb_9 : Has w4 b_9 (y.cells) _ := hb_9.now (by kernel_rfl)
    refine RL.ev (.assign rfl) rfl rfl ?_
    refine RL.nil (RC.back ?_)
    refine RC.cutx (α := Unit) (fun _ => [(0, .pointer (some ⟨bf, 0, none⟩)), (3, .int .i64 left), (6, .pointer (some ⟨b_6, 0, none⟩)), (9, .pointer (some ⟨b_9, 0, none⟩))]) (fun _ w5 => getA A r = some y ∧ (¬ (left = 0 ∨ ¬ y.kind = 1 ∨ b.bad y.n)) ∧ Has w5 bf (frC na fa nc fc A bad) 130 ∧ Has w5 b_6 b.cells 272 ∧ Has w5 b_9 y.cells 140 ∧ Sub w w5) ?_ (fun _ w5 hJ => ?_)
    ·
      refine RC.seq ?_
      refine RC.region rfl ?_
      refine RL.ev (.move rfl) rfl rfl ?_
      refine RL.ev (.bin rfl rfl rfl) rfl rfl ?_
      refine RL.ev (.move rfl) rfl rfl ?_
      refine RL.split 30 rfl (fun h6 => ?_) (fun h6 => ?_)
      ·
        have hres : mayF A (k + 1) r b left = -1 := (by cases hg : getA A r with | none => exact mayF_none hr0 hg | some x => exact absurd (hgs x hg).2 h6)
        refine RL.off rfl rfl ?_
        refine RL.off rfl rfl ?_
        refine RL.ev (.pick_t rfl rfl) rfl rfl ?_
        refine RL.ev (.move rfl) rfl rfl ?_
        refine RL.off rfl rfl ?_
        refine RL.off rfl rfl ?_
        refine RL.off rfl rfl ?_
        refine RL.ev (.pick_t rfl rfl) rfl rfl ?_
        refine RL.ev (.move rfl) rfl rfl ?_
        refine RL.off rfl rfl ?_
        refine RL.off rfl rfl ?_
        refine RL.off rfl rfl ?_
        refine RL.off rfl rfl ?_
        refine RL.off rfl rfl ?_
        refine RL.off rfl rfl ?_
        refine RL.off rfl rfl ?_
        refine RL.off rfl rfl ?_
        refine RL.off rfl rfl ?_
        refine RL.ev (.pick_t rfl rfl) rfl rfl ?_
        refine RL.ev (.move rfl) rfl rfl ?_
        refine RL.off rfl rfl ?_
        refine RL.off rfl rfl ?_
        refine RL.off rfl rfl ?_
        refine RL.off rfl rfl ?_
        refine RL.off rfl rfl ?_
        refine RL.off rfl rfl ?_
        refine RL.off rfl rfl ?_
        refine RL.off rfl rfl ?_
        refine RL.off rfl rfl ?_
        refine RL.ev (.pick_t rfl rfl) rfl rfl ?_
        refine RL.ev (.move rfl) rfl rfl ?_
        refine RL.off rfl rfl ?_
        refine RL.off rfl rfl ?_
        refine RL.off rfl rfl ?_
        refine RL.off rfl rfl ?_
        refine RL.off rfl rfl ?_
        refine RL.off rfl rfl ?_
        refine RL.off rfl rfl ?_
        refine RL.off rfl rfl ?_
        refine RL.off rfl rfl ?_
        refine RL.off rfl rfl ?_
        refine RL.ev (.pick_t rfl rfl) rfl rfl ?_
        refine RL.nil (RC.back ?_)
        refine RC.cond_t rfl ?_
        refine RC.seq ?_
        refine RC.region rfl ?_
        refine RL.ev (.assign rfl) rfl rfl ?_
        refine RL.nil (RC.back ?_)
        refine RC.done (rs := [.tmp 8]) (vs := [_]) rfl rfl ⟨rfl, trivial⟩ ?_
        -- end 2
        exact ⟨congrArg (Value.int .i64) hres.symm, S⟩
      ·
        have hy : getA A r = some y := (by cases hg : getA A r with | none => have := (hgn hg).2; omega | some x => rw [(hgs x hg).1])
        refine RL.ev (.move rfl) rfl rfl ?_
        refine RL.ev (.bin rfl rfl rfl) rfl rfl ?_
        refine RL.ev (.pick_f rfl rfl) rfl rfl ?_
        refine RL.ev (.move rfl) rfl rfl ?_
        refine RL.split 34 rfl (fun h7 => ?_) (fun h7 => ?_)
        ·
          have hres := mayF_bad (k := k) (b := b) hr0 hy (.inl h7)
          refine RL.off rfl rfl ?_
          refine RL.off rfl rfl ?_
          refine RL.off rfl rfl ?_
          refine RL.ev (.pick_t rfl rfl) rfl rfl ?_
          refine RL.ev (.move rfl) rfl rfl ?_
          refine RL.off rfl rfl ?_
          refine RL.off rfl rfl ?_
          refine RL.off rfl rfl ?_
          refine RL.off rfl rfl ?_
          refine RL.off rfl rfl ?_
          refine RL.off rfl rfl ?_
          refine RL.off rfl rfl ?_
          refine RL.off rfl rfl ?_
          refine RL.off rfl rfl ?_
          refine RL.ev (.pick_t rfl rfl) rfl rfl ?_
          refine RL.ev (.move rfl) rfl rfl ?_
          refine RL.off rfl rfl ?_
          refine RL.off rfl rfl ?_
          refine RL.off rfl rfl ?_
          refine RL.off rfl rfl ?_
          refine RL.off rfl rfl ?_
          refine RL.off rfl rfl ?_
          refine RL.off rfl rfl ?_
          refine RL.off rfl rfl ?_
          refine RL.off rfl rfl ?_
          refine RL.ev (.pick_t rfl rfl) rfl rfl ?_
          refine RL.ev (.move rfl) rfl rfl ?_
          refine RL.off rfl rfl ?_
          refine RL.off rfl rfl ?_
          refine RL.off rfl rfl ?_
          refine RL.off rfl rfl ?_
          refine RL.off rfl rfl ?_
          refine RL.off rfl rfl ?_
          refine RL.off rfl rfl ?_
          refine RL.off rfl rfl ?_
          refine RL.off rfl rfl ?_
          refine RL.off rfl rfl ?_
          refine RL.ev (.pick_t rfl rfl) rfl rfl ?_
          refine RL.nil (RC.back ?_)
          refine RC.cond_t rfl ?_
          refine RC.seq ?_
          refine RC.region rfl ?_
          refine RL.ev (.assign rfl) rfl rfl ?_
          refine RL.nil (RC.back ?_)
          refine RC.done (rs := [.tmp 8]) (vs := [_]) rfl rfl ⟨rfl, trivial⟩ ?_
          -- end 3
          exact ⟨congrArg (Value.int .i64) hres.symm, S⟩
        ·
          have p34 := h7
          refine RL.ev (.field0 fo140_0 rfl) rfl rfl ?_
          refine RL.ev (.load1 sh3 rfl (hb_9.cell rfl)) rfl rfl ?_
          refine RL.ev (.bin rfl rfl rfl) rfl rfl ?_
          refine RL.ev (.pick_f rfl rfl) rfl rfl ?_
          refine RL.ev (.move rfl) rfl rfl ?_
          refine RL.split 39 rfl (fun h8 => ?_) (fun h8 => ?_)
          ·
            have hres := mayF_bad (k := k) (b := b) (left := left) hr0 hy (.inr (.inl h8))
            refine RL.off rfl rfl ?_
            refine RL.off rfl rfl ?_
            refine RL.off rfl rfl ?_
            refine RL.off rfl rfl ?_
            refine RL.off rfl rfl ?_
            refine RL.off rfl rfl ?_
            refine RL.off rfl rfl ?_
            refine RL.off rfl rfl ?_
            refine RL.off rfl rfl ?_
            refine RL.ev (.pick_t rfl rfl) rfl rfl ?_
            refine RL.ev (.move rfl) rfl rfl ?_
            refine RL.off rfl rfl ?_
            refine RL.off rfl rfl ?_
            refine RL.off rfl rfl ?_
            refine RL.off rfl rfl ?_
            refine RL.off rfl rfl ?_
            refine RL.off rfl rfl ?_
            refine RL.off rfl rfl ?_
            refine RL.off rfl rfl ?_
            refine RL.off rfl rfl ?_
            refine RL.ev (.pick_t rfl rfl) rfl rfl ?_
            refine RL.ev (.move rfl) rfl rfl ?_
            refine RL.off rfl rfl ?_
            refine RL.off rfl rfl ?_
            refine RL.off rfl rfl ?_
            refine RL.off rfl rfl ?_
            refine RL.off rfl rfl ?_
            refine RL.off rfl rfl ?_
            refine RL.off rfl rfl ?_
            refine RL.off rfl rfl ?_
            refine RL.off rfl rfl ?_
            refine RL.off rfl rfl ?_
            refine RL.ev (.pick_t rfl rfl) rfl rfl ?_
            refine RL.nil (RC.back ?_)
            refine RC.cond_t rfl ?_
            refine RC.seq ?_
            refine RC.region rfl ?_
            refine RL.ev (.assign rfl) rfl rfl ?_
            refine RL.nil (RC.back ?_)
            refine RC.done (rs := [.tmp 8]) (vs := [_]) rfl rfl ⟨rfl, trivial⟩ ?_
            -- end 4
            exact ⟨congrArg (Value.int .i64) hres.symm, S⟩
          ·
            have p39 := h8
            refine RL.ev (.field0 fo272_2 rfl) rfl rfl ?_
            refine RL.ev (.load1 sh4 rfl (hb_6.cell rfl)) rfl rfl ?_
            refine RL.ev (.move rfl) rfl rfl ?_
            refine RL.splitB 42 rfl (fun h9 => ?_) (fun h9 => ?_)
            ·
              have qL := h9
              refine RL.ev (.field0 fo140_2 rfl) rfl rfl ?_
              refine RL.ev (.load1 sh2 rfl (hb_9.cell rfl)) rfl rfl ?_
              refine RL.ev (.field0 fo272_0 rfl) rfl rfl ?_
              refine RL.ev (.load1 sh2 rfl (hb_6.cell rfl)) rfl rfl ?_
              refine RL.ev (.bin rfl rfl rfl) rfl rfl ?_
              refine RL.ev (.pick_t rfl rfl) rfl rfl ?_
              refine RL.ev (.pick_f rfl rfl) rfl rfl ?_
              refine RL.ev (.move rfl) rfl rfl ?_
              refine RL.split 50 rfl (fun h10 => ?_) (fun h10 => ?_)
              ·
                have hres := mayF_bad (k := k) (b := b) (left := left) hr0 hy (.inr (.inr (.inl ⟨qL, h10⟩)))
                refine RL.off rfl rfl ?_
                refine RL.off rfl rfl ?_
                refine RL.off rfl rfl ?_
                refine RL.off rfl rfl ?_
                refine RL.off rfl rfl ?_
                refine RL.off rfl rfl ?_
                refine RL.off rfl rfl ?_
                refine RL.off rfl rfl ?_
                refine RL.off rfl rfl ?_
                refine RL.ev (.pick_t rfl rfl) rfl rfl ?_
                refine RL.ev (.move rfl) rfl rfl ?_
                refine RL.off rfl rfl ?_
                refine RL.off rfl rfl ?_
                refine RL.off rfl rfl ?_
                refine RL.off rfl rfl ?_
                refine RL.off rfl rfl ?_
                refine RL.off rfl rfl ?_
                refine RL.off rfl rfl ?_
                refine RL.off rfl rfl ?_
                refine RL.off rfl rfl ?_
                refine RL.off rfl rfl ?_
                refine RL.ev (.pick_t rfl rfl) rfl rfl ?_
                refine RL.nil (RC.back ?_)
                refine RC.cond_t rfl ?_
                refine RC.seq ?_
                refine RC.region rfl ?_
                refine RL.ev (.assign rfl) rfl rfl ?_
                refine RL.nil (RC.back ?_)
                refine RC.done (rs := [.tmp 8]) (vs := [_]) rfl rfl ⟨rfl, trivial⟩ ?_
                -- end 5
                exact ⟨congrArg (Value.int .i64) hres.symm, S⟩
              ·
                have pL := h10
                refine RL.ev (.field0 fo272_3 rfl) rfl rfl ?_
                refine RL.ev (.load1 sh4 rfl (hb_6.cell rfl)) rfl rfl ?_
                refine RL.ev (.move rfl) rfl rfl ?_
                refine RL.splitB 53 rfl (fun h11 => ?_) (fun h11 => ?_)
                ·
                  have qH := h11
                  refine RL.ev (.field0 fo140_2 rfl) rfl rfl ?_
                  refine RL.ev (.load1 sh2 rfl (hb_9.cell rfl)) rfl rfl ?_
                  refine RL.ev (.field0 fo272_1 rfl) rfl rfl ?_
                  refine RL.ev (.load1 sh2 rfl (hb_6.cell rfl)) rfl rfl ?_
                  refine RL.ev (.bin rfl rfl rfl) rfl rfl ?_
                  refine RL.ev (.pick_t rfl rfl) rfl rfl ?_
                  refine RL.ev (.pick_f rfl rfl) rfl rfl ?_
                  refine RL.ev (.move rfl) rfl rfl ?_
                  refine RL.split 61 rfl (fun h12 => ?_) (fun h12 => ?_)
                  ·
                    have hres := mayF_bad (k := k) (b := b) (left := left) hr0 hy (.inr (.inr (.inr (.inl ⟨qH, by omega⟩))))
                    refine RL.off rfl rfl ?_
                    refine RL.off rfl rfl ?_
                    refine RL.off rfl rfl ?_
                    refine RL.off rfl rfl ?_
                    refine RL.off rfl rfl ?_
                    refine RL.off rfl rfl ?_
                    refine RL.off rfl rfl ?_
                    refine RL.off rfl rfl ?_
                    refine RL.off rfl rfl ?_
                    refine RL.off rfl rfl ?_
                    refine RL.ev (.pick_t rfl rfl) rfl rfl ?_
                    refine RL.nil (RC.back ?_)
                    refine RC.cond_t rfl ?_
                    refine RC.seq ?_
                    refine RC.region rfl ?_
                    refine RL.ev (.assign rfl) rfl rfl ?_
                    refine RL.nil (RC.back ?_)
                    refine RC.done (rs := [.tmp 8]) (vs := [_]) rfl rfl ⟨rfl, trivial⟩ ?_
                    -- end 6
                    exact ⟨congrArg (Value.int .i64) hres.symm, S⟩
                  ·
                    have pH := h12
                    refine RL.ev (.field0 fo272_5 rfl) rfl rfl ?_
                    refine RL.ev (.load1 sh4 rfl (hb_6.cell rfl)) rfl rfl ?_
                    refine RL.ev (.move rfl) rfl rfl ?_
                    refine RL.splitB 64 rfl (fun h13 => ?_) (fun h13 => ?_)
                    ·
                      have qA := h13
                      refine RL.ev (.field0 fo272_4 rfl) rfl rfl ?_
                      refine RL.ev (.load1 sh2 rfl (hb_6.cell rfl)) rfl rfl ?_
                      refine RL.ev (.field0 fo140_2 rfl) rfl rfl ?_
                      refine RL.ev (.load1 sh2 rfl (hb_9.cell rfl)) rfl rfl ?_
                      refine RL.call rfl ok195 (c_before b.above y.n w4) rfl rfl ?_
                      rintro _ w14 ⟨rfl, s15⟩
                      have S := S.trans s15
                      have hbf := hbf.sub s15
                      have hb_6 := hb_6.sub s15
                      have hb_9 := hb_9.sub s15
                      refine RL.ev (.not rfl) rfl rfl ?_
                      refine RL.ev (.pick_t rfl rfl) rfl rfl ?_
                      refine RL.ev (.pick_f rfl rfl) rfl rfl ?_
                      refine RL.nil (RC.back ?_)
                      refine RC.cond rfl (fun h16 => ?_) (fun h16 => ?_)
                      ·
                        have hres := mayF_bad (k := k) (b := b) (left := left) hr0 hy (.inr (.inr (.inr (.inr ⟨qA, by simpa using h16⟩))))
                        refine RC.seq ?_
                        refine RC.region rfl ?_
                        refine RL.ev (.assign rfl) rfl rfl ?_
                        refine RL.nil (RC.back ?_)
                        refine RC.done (rs := [.tmp 8]) (vs := [_]) rfl rfl ⟨rfl, trivial⟩ ?_
                        -- end 7
                        exact ⟨congrArg (Value.int .i64) hres.symm, S⟩
                      ·
                        have pA := h16
                        exact RC.skip (fun a ka => ⟨(), ⟨hy, by rintro (q | q | (q | q | q)); exact p34 q; exact p39 q; (first | exact pL q.2 | (rw [q.1] at qL; cases qL)); (first | exact pH (by have := q.2; omega) | (rw [q.1] at qH; cases qH)); (first | (rw [q.1] at qA; cases qA; done) | (rw [q.2] at pA; cases pA; done)), hbf, hb_6, hb_9, S⟩, ka.keep (keep_of (by repeat (first | exact trivial | refine And.intro rfl ?_)))⟩)
                    ·
                      have qA := h13
                      refine RL.off rfl rfl ?_
                      refine RL.off rfl rfl ?_
                      refine RL.off rfl rfl ?_
                      refine RL.off rfl rfl ?_
                      refine RL.off rfl rfl ?_
                      refine RL.off rfl rfl ?_
                      refine RL.ev (.pick_f rfl rfl) rfl rfl ?_
                      refine RL.ev (.pick_f rfl rfl) rfl rfl ?_
                      refine RL.nil (RC.back ?_)
                      refine RC.cond_f rfl ?_
                      exact RC.skip (fun a ka => ⟨(), ⟨hy, by rintro (q | q | (q | q | q)); exact p34 q; exact p39 q; (first | exact pL q.2 | (rw [q.1] at qL; cases qL)); (first | exact pH (by have := q.2; omega) | (rw [q.1] at qH; cases qH)); (first | (rw [q.1] at qA; cases qA; done) | (rw [q.2] at pA; cases pA; done)), hbf, hb_6, hb_9, S⟩, ka.keep (keep_of (by repeat (first | exact trivial | refine And.intro rfl ?_)))⟩)
                ·
                  have qH := h11
                  refine RL.off rfl rfl ?_
                  refine RL.off rfl rfl ?_
                  refine RL.off rfl rfl ?_
                  refine RL.off rfl rfl ?_
                  refine RL.off rfl rfl ?_
                  refine RL.ev (.pick_f rfl rfl) rfl rfl ?_
                  refine RL.ev (.pick_f rfl rfl) rfl rfl ?_
                  refine RL.ev (.move rfl) rfl rfl ?_
                  refine RL.ev (.field0 fo272_5 rfl) rfl rfl ?_
                  refine RL.ev (.load1 sh4 rfl (hb_6.cell rfl)) rfl rfl ?_
                  refine RL.ev (.move rfl) rfl rfl ?_
                  refine RL.splitB 64 rfl (fun h17 => ?_) (fun h17 => ?_)
                  ·
                    have qA := h17
                    refine RL.ev (.field0 fo272_4 rfl) rfl rfl ?_
                    refine RL.ev (.load1 sh2 rfl (hb_6.cell rfl)) rfl rfl ?_
                    refine RL.ev (.field0 fo140_2 rfl) rfl rfl ?_
                    refine RL.ev (.load1 sh2 rfl (hb_9.cell rfl)) rfl rfl ?_
                    refine RL.call rfl ok195 (c_before b.above y.n w4) rfl rfl ?_
                    rintro _ w18 ⟨rfl, s19⟩
                    have S := S.trans s19
                    have hbf := hbf.sub s19
                    have hb_6 := hb_6.sub s19
                    have hb_9 := hb_9.sub s19
                    refine RL.ev (.not rfl) rfl rfl ?_
                    refine RL.ev (.pick_t rfl rfl) rfl rfl ?_
                    refine RL.ev (.pick_f rfl rfl) rfl rfl ?_
                    refine RL.nil (RC.back ?_)
                    refine RC.cond rfl (fun h20 => ?_) (fun h20 => ?_)
                    ·
                      have hres := mayF_bad (k := k) (b := b) (left := left) hr0 hy (.inr (.inr (.inr (.inr ⟨qA, by simpa using h20⟩))))
                      refine RC.seq ?_
                      refine RC.region rfl ?_
                      refine RL.ev (.assign rfl) rfl rfl ?_
                      refine RL.nil (RC.back ?_)
                      refine RC.done (rs := [.tmp 8]) (vs := [_]) rfl rfl ⟨rfl, trivial⟩ ?_
                      -- end 8
                      exact ⟨congrArg (Value.int .i64) hres.symm, S⟩
                    ·
                      have pA := h20
                      exact RC.skip (fun a ka => ⟨(), ⟨hy, by rintro (q | q | (q | q | q)); exact p34 q; exact p39 q; (first | exact pL q.2 | (rw [q.1] at qL; cases qL)); (first | exact pH (by have := q.2; omega) | (rw [q.1] at qH; cases qH)); (first | (rw [q.1] at qA; cases qA; done) | (rw [q.2] at pA; cases pA; done)), hbf, hb_6, hb_9, S⟩, ka.keep (keep_of (by repeat (first | exact trivial | refine And.intro rfl ?_)))⟩)
                  ·
                    have qA := h17
                    refine RL.off rfl rfl ?_
                    refine RL.off rfl rfl ?_
                    refine RL.off rfl rfl ?_
                    refine RL.off rfl rfl ?_
                    refine RL.off rfl rfl ?_
                    refine RL.off rfl rfl ?_
                    refine RL.ev (.pick_f rfl rfl) rfl rfl ?_
                    refine RL.ev (.pick_f rfl rfl) rfl rfl ?_
                    refine RL.nil (RC.back ?_)
                    refine RC.cond_f rfl ?_
                    exact RC.skip (fun a ka => ⟨(), ⟨hy, by rintro (q | q | (q | q | q)); exact p34 q; exact p39 q; (first | exact pL q.2 | (rw [q.1] at qL; cases qL)); (first | exact pH (by have := q.2; omega) | (rw [q.1] at qH; cases qH)); (first | (rw [q.1] at qA; cases qA; done) | (rw [q.2] at pA; cases pA; done)), hbf, hb_6, hb_9, S⟩, ka.keep (keep_of (by repeat (first | exact trivial | refine And.intro rfl ?_)))⟩)
            ·
              have qL := h9
              refine RL.off rfl rfl ?_
              refine RL.off rfl rfl ?_
              refine RL.off rfl rfl ?_
              refine RL.off rfl rfl ?_
              refine RL.off rfl rfl ?_
              refine RL.ev (.pick_f rfl rfl) rfl rfl ?_
              refine RL.ev (.pick_f rfl rfl) rfl rfl ?_
              refine RL.ev (.move rfl) rfl rfl ?_
              refine RL.ev (.field0 fo272_3 rfl) rfl rfl ?_
              refine RL.ev (.load1 sh4 rfl (hb_6.cell rfl)) rfl rfl ?_
              refine RL.ev (.move rfl) rfl rfl ?_
              refine RL.splitB 53 rfl (fun h21 => ?_) (fun h21 => ?_)
              ·
                have qH := h21
                refine RL.ev (.field0 fo140_2 rfl) rfl rfl ?_
                refine RL.ev (.load1 sh2 rfl (hb_9.cell rfl)) rfl rfl ?_
                refine RL.ev (.field0 fo272_1 rfl) rfl rfl ?_
                refine RL.ev (.load1 sh2 rfl (hb_6.cell rfl)) rfl rfl ?_
                refine RL.ev (.bin rfl rfl rfl) rfl rfl ?_
                refine RL.ev (.pick_t rfl rfl) rfl rfl ?_
                refine RL.ev (.pick_f rfl rfl) rfl rfl ?_
                refine RL.ev (.move rfl) rfl rfl ?_
                refine RL.split 61 rfl (fun h22 => ?_) (fun h22 => ?_)
                ·
                  have hres := mayF_bad (k := k) (b := b) (left := left) hr0 hy (.inr (.inr (.inr (.inl ⟨qH, by omega⟩))))
                  refine RL.off rfl rfl ?_
                  refine RL.off rfl rfl ?_
                  refine RL.off rfl rfl ?_
                  refine RL.off rfl rfl ?_
                  refine RL.off rfl rfl ?_
                  refine RL.off rfl rfl ?_
                  refine RL.off rfl rfl ?_
                  refine RL.off rfl rfl ?_
                  refine RL.off rfl rfl ?_
                  refine RL.off rfl rfl ?_
                  refine RL.ev (.pick_t rfl rfl) rfl rfl ?_
                  refine RL.nil (RC.back ?_)
                  refine RC.cond_t rfl ?_
                  refine RC.seq ?_
                  refine RC.region rfl ?_
                  refine RL.ev (.assign rfl) rfl rfl ?_
                  refine RL.nil (RC.back ?_)
                  refine RC.done (rs := [.tmp 8]) (vs := [_]) rfl rfl ⟨rfl, trivial⟩ ?_
                  -- end 9
                  exact ⟨congrArg (Value.int .i64) hres.symm, S⟩
                ·
                  have pH := h22
                  refine RL.ev (.field0 fo272_5 rfl) rfl rfl ?_
                  refine RL.ev (.load1 sh4 rfl (hb_6.cell rfl)) rfl rfl ?_
                  refine RL.ev (.move rfl) rfl rfl ?_
                  refine RL.splitB 64 rfl (fun h23 => ?_) (fun h23 => ?_)
                  ·
                    have qA := h23
                    refine RL.ev (.field0 fo272_4 rfl) rfl rfl ?_
                    refine RL.ev (.load1 sh2 rfl (hb_6.cell rfl)) rfl rfl ?_
                    refine RL.ev (.field0 fo140_2 rfl) rfl rfl ?_
                    refine RL.ev (.load1 sh2 rfl (hb_9.cell rfl)) rfl rfl ?_
                    refine RL.call rfl ok195 (c_before b.above y.n w4) rfl rfl ?_
                    rintro _ w24 ⟨rfl, s25⟩
                    have S := S.trans s25
                    have hbf := hbf.sub s25
                    have hb_6 := hb_6.sub s25
                    have hb_9 := hb_9.sub s25
                    refine RL.ev (.not rfl) rfl rfl ?_
                    refine RL.ev (.pick_t rfl rfl) rfl rfl ?_
                    refine RL.ev (.pick_f rfl rfl) rfl rfl ?_
                    refine RL.nil (RC.back ?_)
                    refine RC.cond rfl (fun h26 => ?_) (fun h26 => ?_)
                    ·
                      have hres := mayF_bad (k := k) (b := b) (left := left) hr0 hy (.inr (.inr (.inr (.inr ⟨qA, by simpa using h26⟩))))
                      refine RC.seq ?_
                      refine RC.region rfl ?_
                      refine RL.ev (.assign rfl) rfl rfl ?_
                      refine RL.nil (RC.back ?_)
                      refine RC.done (rs := [.tmp 8]) (vs := [_]) rfl rfl ⟨rfl, trivial⟩ ?_
                      -- end 10
                      exact ⟨congrArg (Value.int .i64) hres.symm, S⟩
                    ·
                      have pA := h26
                      exact RC.skip (fun a ka => ⟨(), ⟨hy, by rintro (q | q | (q | q | q)); exact p34 q; exact p39 q; (first | exact pL q.2 | (rw [q.1] at qL; cases qL)); (first | exact pH (by have := q.2; omega) | (rw [q.1] at qH; cases qH)); (first | (rw [q.1] at qA; cases qA; done) | (rw [q.2] at pA; cases pA; done)), hbf, hb_6, hb_9, S⟩, ka.keep (keep_of (by repeat (first | exact trivial | refine And.intro rfl ?_)))⟩)
                  ·
                    have qA := h23
                    refine RL.off rfl rfl ?_
                    refine RL.off rfl rfl ?_
                    refine RL.off rfl rfl ?_
                    refine RL.off rfl rfl ?_
                    refine RL.off rfl rfl ?_
                    refine RL.off rfl rfl ?_
                    refine RL.ev (.pick_f rfl rfl) rfl rfl ?_
                    refine RL.ev (.pick_f rfl rfl) rfl rfl ?_
                    refine RL.nil (RC.back ?_)
                    refine RC.cond_f rfl ?_
                    exact RC.skip (fun a ka => ⟨(), ⟨hy, by rintro (q | q | (q | q | q)); exact p34 q; exact p39 q; (first | exact pL q.2 | (rw [q.1] at qL; cases qL)); (first | exact pH (by have := q.2; omega) | (rw [q.1] at qH; cases qH)); (first | (rw [q.1] at qA; cases qA; done) | (rw [q.2] at pA; cases pA; done)), hbf, hb_6, hb_9, S⟩, ka.keep (keep_of (by repeat (first | exact trivial | refine And.intro rfl ?_)))⟩)
              ·
                have qH := h21
                refine RL.off rfl rfl ?_
                refine RL.off rfl rfl ?_
                refine RL.off rfl rfl ?_
                refine RL.off rfl rfl ?_
                refine RL.off rfl rfl ?_
                refine RL.ev (.pick_f rfl rfl) rfl rfl ?_
                refine RL.ev (.pick_f rfl rfl) rfl rfl ?_
                refine RL.ev (.move rfl) rfl rfl ?_
                refine RL.ev (.field0 fo272_5 rfl) rfl rfl ?_
                refine RL.ev (.load1 sh4 rfl (hb_6.cell rfl)) rfl rfl ?_
                refine RL.ev (.move rfl) rfl rfl ?_
                refine RL.splitB 64 rfl (fun h27 => ?_) (fun h27 => ?_)
                ·
                  have qA := h27
                  refine RL.ev (.field0 fo272_4 rfl) rfl rfl ?_
                  refine RL.ev (.load1 sh2 rfl (hb_6.cell rfl)) rfl rfl ?_
                  refine RL.ev (.field0 fo140_2 rfl) rfl rfl ?_
                  refine RL.ev (.load1 sh2 rfl (hb_9.cell rfl)) rfl rfl ?_
                  refine RL.call rfl ok195 (c_before b.above y.n w4) rfl rfl ?_
                  rintro _ w28 ⟨rfl, s29⟩
                  have S := S.trans s29
                  have hbf := hbf.sub s29
                  have hb_6 := hb_6.sub s29
                  have hb_9 := hb_9.sub s29
                  refine RL.ev (.not rfl) rfl rfl ?_
                  refine RL.ev (.pick_t rfl rfl) rfl rfl ?_
                  refine RL.ev (.pick_f rfl rfl) rfl rfl ?_
                  refine RL.nil (RC.back ?_)
                  refine RC.cond rfl (fun h30 => ?_) (fun h30 => ?_)
                  ·
                    have hres := mayF_bad (k := k) (b := b) (left := left) hr0 hy (.inr (.inr (.inr (.inr ⟨qA, by simpa using h30⟩))))
                    refine RC.seq ?_
                    refine RC.region rfl ?_
                    refine RL.ev (.assign rfl) rfl rfl ?_
                    refine RL.nil (RC.back ?_)
                    refine RC.done (rs := [.tmp 8]) (vs := [_]) rfl rfl ⟨rfl, trivial⟩ ?_
                    -- end 11
                    exact ⟨congrArg (Value.int .i64) hres.symm, S⟩
                  ·
                    have pA := h30
                    exact RC.skip (fun a ka => ⟨(), ⟨hy, by rintro (q | q | (q | q | q)); exact p34 q; exact p39 q; (first | exact pL q.2 | (rw [q.1] at qL; cases qL)); (first | exact pH (by have := q.2; omega) | (rw [q.1] at qH; cases qH)); (first | (rw [q.1] at qA; cases qA; done) | (rw [q.2] at pA; cases pA; done)), hbf, hb_6, hb_9, S⟩, ka.keep (keep_of (by repeat (first | exact trivial | refine And.intro rfl ?_)))⟩)
                ·
                  have qA := h27
                  refine RL.off rfl rfl ?_
                  refine RL.off rfl rfl ?_
                  refine RL.off rfl rfl ?_
                  refine RL.off rfl rfl ?_
                  refine RL.off rfl rfl ?_
                  refine RL.off rfl rfl ?_
                  refine RL.ev (.pick_f rfl rfl) rfl rfl ?_
                  refine RL.ev (.pick_f rfl rfl) rfl rfl ?_
                  refine RL.nil (RC.back ?_)
                  refine RC.cond_f rfl ?_
                  exact RC.skip (fun a ka => ⟨(), ⟨hy, by rintro (q | q | (q | q | q)); exact p34 q; exact p39 q; (first | exact pL q.2 | (rw [q.1] at qL; cases qL)); (first | exact pH (by have := q.2; omega) | (rw [q.1] at qH; cases qH)); (first | (rw [q.1] at qA; cases qA; done) | (rw [q.2] at pA; cases pA; done)), hbf, hb_6, hb_9, S⟩, ka.keep (keep_of (by repeat (first | exact trivial | refine And.intro rfl ?_)))⟩)
    obtain ⟨hy, hnb, hbf, hb_6, hb_9, S⟩ := hJ
    have hk1 : y.kind = 1 := Decidable.not_not.1 (fun e => hnb (.inr (.inl e)))
    have hleft : ¬ left = 0 := (fun e => hnb (.inl e))
    refine RC.seq ?_
    refine RC.region rfl ?_
    refine RL.ev (.field0 fo140_0 rfl) rfl rfl ?_
    refine RL.ev (.load1 sh3 rfl (hb_9.cell rfl)) rfl rfl ?_
    refine RL.ev (.field0 fo140_1 rfl) rfl rfl ?_
    refine RL.ev (.load1 sh3 rfl (hb_9.cell rfl)) rfl rfl ?_
    refine RL.ev (.field0 fo140_2 rfl) rfl rfl ?_
    refine RL.ev (.load1 sh2 rfl (hb_9.cell rfl)) rfl rfl ?_
    refine RL.ev (.field0 fo140_3 rfl) rfl rfl ?_
    refine RL.ev (.load1 sh2 rfl (hb_9.cell rfl)) rfl rfl ?_
    refine RL.ev (.field0 fo140_4 rfl) rfl rfl ?_
    refine RL.ev (.load1 sh2 rfl (hb_9.cell rfl)) rfl rfl ?_
    refine RL.ev (.buildS ze140 pl140 rfl rfl) rfl rfl ?_
    refine RL.alloc ze140 rfl rfl (fun b_11 w_11 e_11 z_11 hb_11 s_11 => ?_)
    have ge_11 := S.le e_11
    have nf__11 := hbf.ne e_11
    have n_6__11 := hb_6.ne e_11
    have n_9__11 := hb_9.ne e_11
    have S := S.trans s_11
    have hbf := hbf.sub s_11
    have hb_6 := hb_6.sub s_11
    have hb_9 := hb_9.sub s_11
    refine RL.store sh140 rfl rfl rfl hb_11 (by exact Nat.le_of_ble_eq_true rfl) (by rfl) rfl (fun w31 z31 hb_11 a31 => ?_)
    have S := S.upd a31 ge_11
    have hbf := hbf.upd a31 nf__11
    have hb_6 := hb_6.upd a31 n_6__11
    have hb_9 := hb_9.upd a31 n_9__11
    have hb_11 : Has w31 b_11 ((bare1 y 0 0).cells) _ := hb_11.now (by kernel_rfl)
    refine RL.nil (RC.back ?_)
    refine RC.cutx (α := Unit) (fun _ => [(0, .pointer (some ⟨bf, 0, none⟩)), (3, .int .i64 left), (6, .pointer (some ⟨b_6, 0, none⟩)), (9, .pointer (some ⟨b_9, 0, none⟩)), (11, .pointer (some ⟨b_11, 0, none⟩))]) (fun _ w32 => Has w32 bf (frC na fa nc fc A bad) 130 ∧ Has w32 b_6 b.cells 272 ∧ Has w32 b_9 y.cells 140 ∧ Has w32 b_11 (bare1 y y.k0 y.k1).cells 140 ∧ Sub w w32) ?_ (fun _ w32 hJ => ?_)
    ·
      refine RC.drawD (fun k => k = b_11) [8, 11] w31.heap.size 12 rfl rfl mxo (fun w33 s34 => ?_)
      have hNN : ∀ k, ((k = b_11) ∨ w31.heap.size ≤ k) → w.heap.size ≤ k := fun k e => e.elim (fun e => e ▸ ge_11) (fun e => Nat.le_trans S.size e)
      have ent_S := S.size
      have hN0 : ∀ k, w31.heap.size ≤ k → w.heap.size ≤ k := fun k e => Nat.le_trans S.size e
      have ltD_bf := hbf.lt
      have ltD_b_6 := hb_6.lt
      have ltD_b_9 := hb_9.lt
      have ltD_b_11 := hb_11.lt
      have szD := Nat.le_refl w31.heap.size
      have S := S.trans s34
      have hbf := hbf.sub s34
      have hb_6 := hb_6.sub s34
      have hb_9 := hb_9.sub s34
      have hb_11 := hb_11.sub s34
      have szD := Nat.le_trans szD s34.size
      refine RD.take 0 rfl (by kernel_rfl) (by kernel_rfl) (by kernel_rfl) (fun w' s' => .field0 fo140_5 rfl) rfl rfl ?_
      refine RD.take 1 rfl (by kernel_rfl) (by kernel_rfl) (by kernel_rfl) (fun w' s' => .indexArr ar138 rfl rfl (by omega)) rfl rfl ?_
      refine RD.take 2 rfl (by kernel_rfl) (by kernel_rfl) (by kernel_rfl) (fun w' s' => .load1 sh31 rfl ((hb_9.step s' (fun e => e.elim (fun e => n_9__11 e) (fun e => Nat.not_le.2 ltD_b_9 e))).cell rfl)) rfl rfl ?_
      refine RD.take 3 rfl (by kernel_rfl) (by kernel_rfl) (by kernel_rfl) (fun w' s' => .field0 fo140_5 rfl) rfl rfl ?_
      refine RD.take 4 rfl (by kernel_rfl) (by kernel_rfl) (by kernel_rfl) (fun w' s' => .indexArr ar138 rfl rfl (by omega)) rfl rfl ?_
      refine RD.take 5 rfl (by kernel_rfl) (by kernel_rfl) (by kernel_rfl) (fun w' s' => .load1 sh31 rfl ((hb_9.step s' (fun e => e.elim (fun e => n_9__11 e) (fun e => Nat.not_le.2 ltD_b_9 e))).cell rfl)) rfl rfl ?_
      refine RD.take 6 rfl (by kernel_rfl) (by kernel_rfl) (by kernel_rfl) (fun w' s' => .field0 fo140_5 rfl) rfl rfl ?_
      refine RD.take 7 rfl (by kernel_rfl) (by kernel_rfl) (by kernel_rfl) (fun w' s' => .indexArr ar138 rfl rfl (by omega)) rfl rfl ?_
      refine RD.take 9 rfl (by kernel_rfl) (by kernel_rfl) (by kernel_rfl) (fun w' s' => .field0 fo140_5 rfl) rfl rfl ?_
      refine RD.all [8] (by kernel_rfl) rfl (RDs.cons rfl ?_ (RDs.nil))
      refine RL.store sh31 rfl rfl rfl hb_11 (by exact Nat.le_of_ble_eq_true rfl) (by rfl) rfl (fun w35 z35 hb_11 a35 => ?_)
      have S := S.upd a35 ge_11
      have hbf := hbf.upd a35 nf__11
      have hb_6 := hb_6.upd a35 n_6__11
      have hb_9 := hb_9.upd a35 n_9__11
      have szD := Nat.le_trans szD a35.size
      refine RD.backW rfl (a35.mono fun k _ e => e ▸ (.inl (rfl))) ?_
      refine RD.take 10 rfl (by kernel_rfl) (by kernel_rfl) (by kernel_rfl) (fun w' s' => .indexArr ar138 rfl rfl (by omega)) rfl rfl ?_
      refine RD.all [11] (by kernel_rfl) rfl (RDs.cons rfl ?_ (RDs.nil))
      refine RL.store sh31 rfl rfl rfl hb_11 (by exact Nat.le_of_ble_eq_true rfl) (by rfl) rfl (fun w36 z36 hb_11 a36 => ?_)
      have S := S.upd a36 ge_11
      have hbf := hbf.upd a36 nf__11
      have hb_6 := hb_6.upd a36 n_6__11
      have hb_9 := hb_9.upd a36 n_9__11
      have szD := Nat.le_trans szD a36.size
      refine RD.backW rfl (a36.mono fun k _ e => e ▸ (.inl (rfl))) ?_
      exact RD.done (by kernel_rfl) (fun a ka => ⟨(), ⟨hbf, hb_6, hb_9, hb_11, S⟩, ka.keep (keep_of (by repeat (first | exact trivial | refine And.intro rfl ?_)))⟩)
    obtain ⟨hbf, hb_6, hb_9, hb_11, S⟩ := hJ
    refine RC.seq ?_
    refine RC.region rfl ?_
    refine RL.ev (.loadR (b.cells) sh272 rfl hb_6.row rfl) rfl rfl ?_
    refine RL.alloc ze272 rfl rfl (fun b_12 w_12 e_12 z_12 hb_12 s_12 => ?_)
    have ge_12 := S.le e_12
    have nf__12 := hbf.ne e_12
    have n_6__12 := hb_6.ne e_12
    have n_9__12 := hb_9.ne e_12
    have n_11__12 := hb_11.ne e_12
    have S := S.trans s_12
    have hbf := hbf.sub s_12
    have hb_6 := hb_6.sub s_12
    have hb_9 := hb_9.sub s_12
    have hb_11 := hb_11.sub s_12
    refine RL.store sh272 rfl rfl rfl hb_12 (by exact Nat.le_of_ble_eq_true rfl) (by rfl) rfl (fun w37 z37 hb_12 a37 => ?_)
    have S := S.upd a37 ge_12
    have hbf := hbf.upd a37 nf__12
    have hb_6 := hb_6.upd a37 n_6__12
    have hb_9 := hb_9.upd a37 n_9__12
    have hb_11 := hb_11.upd a37 n_11__12
    have hb_12 : Has w37 b_12 (b.cells) _ := hb_12.now (by kernel_rfl)
    refine RL.nil (RC.back ?_)
    refine RC.seq ?_
    refine RC.region rfl ?_
    refine RL.ev (.field0 fo140_2 rfl) rfl rfl ?_
    refine RL.ev (.load1 sh2 rfl (hb_9.cell rfl)) rfl rfl ?_
    refine RL.ev (.field0 fo272_4 rfl) rfl rfl ?_
    refine RL.store sh2 rfl rfl rfl hb_12 (by exact Nat.le_of_ble_eq_true rfl) (by rfl) rfl (fun w38 z38 hb_12 a38 => ?_)
    have S := S.upd a38 ge_12
    have hbf := hbf.upd a38 nf__12
    have hb_6 := hb_6.upd a38 n_6__12
    have hb_9 := hb_9.upd a38 n_9__12
    have hb_11 := hb_11.upd a38 n_11__12
    refine RL.ev (.field0 fo272_5 rfl) rfl rfl ?_
    refine RL.store sh4 rfl rfl rfl hb_12 (by exact Nat.le_of_ble_eq_true rfl) (by rfl) rfl (fun w39 z39 hb_12 a39 => ?_)
    have S := S.upd a39 ge_12
    have hbf := hbf.upd a39 nf__12
    have hb_6 := hb_6.upd a39 n_6__12
    have hb_9 := hb_9.upd a39 n_9__12
    have hb_11 := hb_11.upd a39 n_11__12
    have hb_12 : Has w39 b_12 ((b.below y.n).cells) _ := hb_12
    refine RL.nil (RC.back ?_)
    refine RC.cutx (α := Nat × Nat) (fun m_ => [(0, .pointer (some ⟨bf, 0, none⟩)), (3, .int .i64 left), (9, .pointer (some ⟨b_9, 0, none⟩)), (11, .pointer (some ⟨b_11, 0, none⟩)), (13, .pointer (some ⟨m_.1, 0, none⟩)), (14, .pointer (some ⟨m_.2, 0, none⟩))]) (fun m_ w40 => (bf ≠ m_.1 ∧ bf ≠ m_.2 ∧ b_9 ≠ m_.1 ∧ b_9 ≠ m_.2 ∧ b_11 ≠ m_.1 ∧ b_11 ≠ m_.2 ∧ m_.1 ≠ m_.2 ∧ w.heap.size ≤ m_.1 ∧ w.heap.size ≤ m_.2) ∧ Has w40 bf (frC na fa nc fc A bad) 130 ∧ Has w40 b_9 y.cells 140 ∧ Has w40 b_11 (bare1 y y.k0 y.k1).cells 140 ∧ Has w40 m_.1 (b.below y.n).cells 272 ∧ Has w40 m_.2 (b.below y.n).cells 272 ∧ Sub w w40) ?_ (fun m_ w40 hJ => ?_)
    ·
      refine RC.drawD (fun k => False) [4, 5] w39.heap.size 6 rfl rfl mxo (fun w41 s42 => ?_)
      have hNN : ∀ k, ((False) ∨ w39.heap.size ≤ k) → w.heap.size ≤ k := fun k e => e.elim (fun e => e.elim) (fun e => Nat.le_trans S.size e)
      have ent_S := S.size
      have hN0 : ∀ k, w39.heap.size ≤ k → w.heap.size ≤ k := fun k e => Nat.le_trans S.size e
      have ltD_bf := hbf.lt
      have ltD_b_6 := hb_6.lt
      have ltD_b_9 := hb_9.lt
      have ltD_b_11 := hb_11.lt
      have ltD_b_12 := hb_12.lt
      have szD := Nat.le_refl w39.heap.size
      have S := S.trans s42
      have hbf := hbf.sub s42
      have hb_6 := hb_6.sub s42
      have hb_9 := hb_9.sub s42
      have hb_11 := hb_11.sub s42
      have hb_12 := hb_12.sub s42
      have szD := Nat.le_trans szD s42.size
      refine RD.take 0 rfl (by kernel_rfl) (by kernel_rfl) (by kernel_rfl) (fun w' s' => .loadR ((b.below y.n).cells) sh272 rfl (hb_12.step s' (fun e => e.elim (fun e => e.elim) (fun e => Nat.not_le.2 ltD_b_12 e))).row rfl) rfl rfl ?_
      refine RD.take 1 rfl (by kernel_rfl) (by kernel_rfl) (by kernel_rfl) (fun w' s' => .loadR ((b.below y.n).cells) sh272 rfl (hb_12.step s' (fun e => e.elim (fun e => e.elim) (fun e => Nat.not_le.2 ltD_b_12 e))).row rfl) rfl rfl ?_
      refine RD.all [2, 3] (by kernel_rfl) rfl (RDs.cons rfl ?_ (RDs.cons rfl ?_ (RDs.nil)))
      ·
        refine RL.alloc ze272 rfl rfl (fun b_13 w_13 e_13 z_13 hb_13 s_13 => ?_)
        have fr_b_13 : w39.heap.size ≤ b_13 := by rw [e_13]; exact szD
        have ge_13 := S.le e_13
        have nf__13 := hbf.ne e_13
        have n_6__13 := hb_6.ne e_13
        have n_9__13 := hb_9.ne e_13
        have n_11__13 := hb_11.ne e_13
        have n_12__13 := hb_12.ne e_13
        have S := S.trans s_13
        have hbf := hbf.sub s_13
        have hb_6 := hb_6.sub s_13
        have hb_9 := hb_9.sub s_13
        have hb_11 := hb_11.sub s_13
        have hb_12 := hb_12.sub s_13
        have szD := Nat.le_trans szD s_13.size
        refine RD.back s_13.agr ?_
        refine RD.all [3] (by kernel_rfl) rfl (RDs.cons rfl ?_ (RDs.nil))
        refine RL.alloc ze272 rfl rfl (fun b_14 w_14 e_14 z_14 hb_14 s_14 => ?_)
        have fr_b_14 : w39.heap.size ≤ b_14 := by rw [e_14]; exact szD
        have ge_14 := S.le e_14
        have nf__14 := hbf.ne e_14
        have n_6__14 := hb_6.ne e_14
        have n_9__14 := hb_9.ne e_14
        have n_11__14 := hb_11.ne e_14
        have n_12__14 := hb_12.ne e_14
        have n_13__14 := hb_13.ne e_14
        have S := S.trans s_14
        have hbf := hbf.sub s_14
        have hb_6 := hb_6.sub s_14
        have hb_9 := hb_9.sub s_14
        have hb_11 := hb_11.sub s_14
        have hb_12 := hb_12.sub s_14
        have szD := Nat.le_trans szD s_14.size
        have hb_13 := hb_13.sub s_14
        refine RD.back s_14.agr ?_
        refine RD.all [4] (by kernel_rfl) rfl (RDs.cons rfl ?_ (RDs.nil))
        refine RL.store sh272 rfl rfl rfl hb_13 (by exact Nat.le_of_ble_eq_true rfl) (by rfl) rfl (fun w43 z43 hb_13 a43 => ?_)
        have S := S.upd a43 ge_13
        have hbf := hbf.upd a43 nf__13
        have hb_6 := hb_6.upd a43 n_6__13
        have hb_9 := hb_9.upd a43 n_9__13
        have hb_11 := hb_11.upd a43 n_11__13
        have hb_12 := hb_12.upd a43 n_12__13
        have szD := Nat.le_trans szD a43.size
        have hb_14 := hb_14.upd a43 n_13__14.symm
        have hb_13 : Has w43 b_13 ((b.below y.n).cells) _ := hb_13.now (by kernel_rfl)
        refine RD.backW rfl (a43.mono fun k _ e => e ▸ (.inr fr_b_13)) ?_
        refine RD.all [5] (by kernel_rfl) rfl (RDs.cons rfl ?_ (RDs.nil))
        refine RL.store sh272 rfl rfl rfl hb_14 (by exact Nat.le_of_ble_eq_true rfl) (by rfl) rfl (fun w44 z44 hb_14 a44 => ?_)
        have S := S.upd a44 ge_14
        have hbf := hbf.upd a44 nf__14
        have hb_6 := hb_6.upd a44 n_6__14
        have hb_9 := hb_9.upd a44 n_9__14
        have hb_11 := hb_11.upd a44 n_11__14
        have hb_12 := hb_12.upd a44 n_12__14
        have szD := Nat.le_trans szD a44.size
        have hb_13 := hb_13.upd a44 n_13__14
        have hb_14 : Has w44 b_14 ((b.below y.n).cells) _ := hb_14.now (by kernel_rfl)
        refine RD.backW rfl (a44.mono fun k _ e => e ▸ (.inr fr_b_14)) ?_
        exact RD.done (by kernel_rfl) (fun a ka => ⟨(b_13, b_14), ⟨⟨nf__13, nf__14, n_9__13, n_9__14, n_11__13, n_11__14, (by first | exact n_13__14 | exact n_14__13.symm), ge_13, ge_14⟩, hbf, hb_9, hb_11, hb_13, hb_14, S⟩, ka.keep (keep_of (by repeat (first | exact trivial | refine And.intro rfl ?_)))⟩)
      ·
        refine RL.alloc ze272 rfl rfl (fun b_14 w_14 e_14 z_14 hb_14 s_14 => ?_)
        have fr_b_14 : w39.heap.size ≤ b_14 := by rw [e_14]; exact szD
        have ge_14 := S.le e_14
        have nf__14 := hbf.ne e_14
        have n_6__14 := hb_6.ne e_14
        have n_9__14 := hb_9.ne e_14
        have n_11__14 := hb_11.ne e_14
        have n_12__14 := hb_12.ne e_14
        have S := S.trans s_14
        have hbf := hbf.sub s_14
        have hb_6 := hb_6.sub s_14
        have hb_9 := hb_9.sub s_14
        have hb_11 := hb_11.sub s_14
        have hb_12 := hb_12.sub s_14
        have szD := Nat.le_trans szD s_14.size
        refine RD.back s_14.agr ?_
        refine RD.all [2] (by kernel_rfl) rfl (RDs.cons rfl ?_ (RDs.nil))
        refine RL.alloc ze272 rfl rfl (fun b_13 w_13 e_13 z_13 hb_13 s_13 => ?_)
        have fr_b_13 : w39.heap.size ≤ b_13 := by rw [e_13]; exact szD
        have ge_13 := S.le e_13
        have nf__13 := hbf.ne e_13
        have n_6__13 := hb_6.ne e_13
        have n_9__13 := hb_9.ne e_13
        have n_11__13 := hb_11.ne e_13
        have n_12__13 := hb_12.ne e_13
        have n_14__13 := hb_14.ne e_13
        have S := S.trans s_13
        have hbf := hbf.sub s_13
        have hb_6 := hb_6.sub s_13
        have hb_9 := hb_9.sub s_13
        have hb_11 := hb_11.sub s_13
        have hb_12 := hb_12.sub s_13
        have szD := Nat.le_trans szD s_13.size
        have hb_14 := hb_14.sub s_13
        refine RD.back s_13.agr ?_
        refine RD.all [4] (by kernel_rfl) rfl (RDs.cons rfl ?_ (RDs.nil))
        refine RL.store sh272 rfl rfl rfl hb_13 (by exact Nat.le_of_ble_eq_true rfl) (by rfl) rfl (fun w45 z45 hb_13 a45 => ?_)
        have S := S.upd a45 ge_13
        have hbf := hbf.upd a45 nf__13
        have hb_6 := hb_6.upd a45 n_6__13
        have hb_9 := hb_9.upd a45 n_9__13
        have hb_11 := hb_11.upd a45 n_11__13
        have hb_12 := hb_12.upd a45 n_12__13
        have szD := Nat.le_trans szD a45.size
        have hb_14 := hb_14.upd a45 n_14__13
        have hb_13 : Has w45 b_13 ((b.below y.n).cells) _ := hb_13.now (by kernel_rfl)
        refine RD.backW rfl (a45.mono fun k _ e => e ▸ (.inr fr_b_13)) ?_
        refine RD.all [5] (by kernel_rfl) rfl (RDs.cons rfl ?_ (RDs.nil))
        refine RL.store sh272 rfl rfl rfl hb_14 (by exact Nat.le_of_ble_eq_true rfl) (by rfl) rfl (fun w46 z46 hb_14 a46 => ?_)
        have S := S.upd a46 ge_14
        have hbf := hbf.upd a46 nf__14
        have hb_6 := hb_6.upd a46 n_6__14
        have hb_9 := hb_9.upd a46 n_9__14
        have hb_11 := hb_11.upd a46 n_11__14
        have hb_12 := hb_12.upd a46 n_12__14
        have szD := Nat.le_trans szD a46.size
        have hb_13 := hb_13.upd a46 n_14__13.symm
        have hb_14 : Has w46 b_14 ((b.below y.n).cells) _ := hb_14.now (by kernel_rfl)
        refine RD.backW rfl (a46.mono fun k _ e => e ▸ (.inr fr_b_14)) ?_
        exact RD.done (by kernel_rfl) (fun a ka => ⟨(b_13, b_14), ⟨⟨nf__13, nf__14, n_9__13, n_9__14, n_11__13, n_11__14, (by first | exact n_13__14 | exact n_14__13.symm), ge_13, ge_14⟩, hbf, hb_9, hb_11, hb_13, hb_14, S⟩, ka.keep (keep_of (by repeat (first | exact trivial | refine And.intro rfl ?_)))⟩)
    obtain ⟨b_13, b_14⟩ := m_
    obtain ⟨⟨nf__13, nf__14, n_9__13, n_9__14, n_11__13, n_11__14, n_13__14, ge_13, ge_14⟩, hbf, hb_9, hb_11, hb_13, hb_14, S⟩ := hJ
    simp only [] at nf__13 nf__14 n_9__13 n_9__14 n_11__13 n_11__14 n_13__14 ge_13 ge_14 hb_13 hb_14
    refine RC.seq ?_
    refine RC.region rfl ?_
    refine RL.ev (.field0 fo140_2 rfl) rfl rfl ?_
    refine RL.ev (.load1 sh2 rfl (hb_9.cell rfl)) rfl rfl ?_
    refine RL.ev (.field0 fo272_1 rfl) rfl rfl ?_
    refine RL.store sh2 rfl rfl rfl hb_13 (by exact Nat.le_of_ble_eq_true rfl) (by rfl) rfl (fun w47 z47 hb_13 a47 => ?_)
    have S := S.upd a47 ge_13
    have hbf := hbf.upd a47 nf__13
    have hb_9 := hb_9.upd a47 n_9__13
    have hb_11 := hb_11.upd a47 n_11__13
    have hb_14 := hb_14.upd a47 n_13__14.symm
    refine RL.ev (.field0 fo272_3 rfl) rfl rfl ?_
    refine RL.store sh4 rfl rfl rfl hb_13 (by exact Nat.le_of_ble_eq_true rfl) (by rfl) rfl (fun w48 z48 hb_13 a48 => ?_)
    have S := S.upd a48 ge_13
    have hbf := hbf.upd a48 nf__13
    have hb_9 := hb_9.upd a48 n_9__13
    have hb_11 := hb_11.upd a48 n_11__13
    have hb_14 := hb_14.upd a48 n_13__14.symm
    have hb_13 : Has w48 b_13 ((b.lo y.n).cells) _ := hb_13
    refine RL.nil (RC.back ?_)
    refine RC.seq ?_
    refine RC.region rfl ?_
    refine RL.ev (.field0 fo140_2 rfl) rfl rfl ?_
    refine RL.ev (.load1 sh2 rfl (hb_9.cell rfl)) rfl rfl ?_
    refine RL.ev (.field0 fo272_0 rfl) rfl rfl ?_
    refine RL.store sh2 rfl rfl rfl hb_14 (by exact Nat.le_of_ble_eq_true rfl) (by rfl) rfl (fun w49 z49 hb_14 a49 => ?_)
    have S := S.upd a49 ge_14
    have hbf := hbf.upd a49 nf__14
    have hb_9 := hb_9.upd a49 n_9__14
    have hb_11 := hb_11.upd a49 n_11__14
    have hb_13 := hb_13.upd a49 n_13__14
    refine RL.ev (.field0 fo272_2 rfl) rfl rfl ?_
    refine RL.store sh4 rfl rfl rfl hb_14 (by exact Nat.le_of_ble_eq_true rfl) (by rfl) rfl (fun w50 z50 hb_14 a50 => ?_)
    have S := S.upd a50 ge_14
    have hbf := hbf.upd a50 nf__14
    have hb_9 := hb_9.upd a50 n_9__14
    have hb_11 := hb_11.upd a50 n_11__14
    have hb_13 := hb_13.upd a50 n_13__14
    have hb_14 : Has w50 b_14 ((b.hi y.n).cells) _ := hb_14
    refine RL.nil (RC.back ?_)
    refine RC.seq ?_
    refine RC.region rfl ?_
    refine RL.ev (.move rfl) rfl rfl ?_
    refine RL.ev (.field0 fo140_5 rfl) rfl rfl ?_
    refine RL.ev (.indexArr ar138 rfl rfl (by omega)) rfl rfl ?_
    refine RL.ev (.load1 sh31 rfl (hb_9.cell rfl)) rfl rfl ?_
    refine RL.ev (.loadR ((b.lo y.n).cells) sh272 rfl hb_13.row rfl) rfl rfl ?_
    refine RL.ev (.move rfl) rfl rfl ?_
    refine RL.ev (.as (.bin rfl rfl rfl) (wi64 (y := left - 1) (by rfl) (by omega))) rfl rfl ?_
    refine RL.call rfl ok188 (ih y.k0 (b.lo y.n) (left - 1) w50 ((hA.nok y (getA_nok hy)).kids _ (by simp [Node.kids])) (by omega) (by omega) (by omega) hbf (hA.sub S)) rfl rfl ?_
    rintro _ w51 ⟨rfl, s52⟩
    have S := S.trans s52
    have hbf := hbf.sub s52
    have hb_9 := hb_9.sub s52
    have hb_11 := hb_11.sub s52
    have hb_13 := hb_13.sub s52
    have hb_14 := hb_14.sub s52
    obtain ⟨p, hp⟩ : ∃ p, mayF A k y.k0 (b.lo y.n) (left - 1) = p := ⟨_, rfl⟩
    have hple := mayF_le A k y.k0 (b.lo y.n) (left - 1) (by omega)
    rw [hp] at hple
    refine RL.ev (.as (v' := .int .i64 p) (.assign rfl) (by rw [hp])) rfl rfl ?_
    refine RL.nil (RC.back ?_)
    refine RC.seq ?_
    refine RC.seq ?_
    refine RC.region rfl ?_
    refine RL.ev (.move rfl) rfl rfl ?_
    refine RL.ev (.bin rfl rfl rfl) rfl rfl ?_
    refine RL.ev (.move rfl) rfl rfl ?_
    refine RL.split 119 rfl (fun h53 => ?_) (fun h53 => ?_)
    ·
      have hres := mayF_left (k := k) hr0 hy hnb (.inl (by rw [hp]; exact h53))
      refine RL.off rfl rfl ?_
      refine RL.off rfl rfl ?_
      refine RL.off rfl rfl ?_
      refine RL.ev (.pick_t rfl rfl) rfl rfl ?_
      refine RL.nil (RC.back ?_)
      refine RC.cond_t rfl ?_
      refine RC.seq ?_
      refine RC.region rfl ?_
      refine RL.ev (.assign rfl) rfl rfl ?_
      refine RL.nil (RC.back ?_)
      refine RC.done (rs := [.tmp 8]) (vs := [_]) rfl rfl ⟨rfl, trivial⟩ ?_
      -- end 12
      exact ⟨congrArg (Value.int .i64) hres.symm, S⟩
    ·
      have hp0 := h53
      refine RL.ev (.loadR ((bare1 y y.k0 y.k1).cells) sh140 rfl hb_11.row rfl) rfl rfl ?_
      refine RL.ev (.loadR (y.cells) sh140 rfl hb_9.row rfl) rfl rfl ?_
      refine RL.ev (.neS (xs := (bare1 y y.k0 y.k1).cells) (ys := y.cells) fk140 eg140 sh140 rfl rfl rfl rfl rfl) rfl rfl ?_
      refine RL.ev (.pick_f rfl rfl) rfl rfl ?_
      refine RL.nil (RC.back ?_)
      refine RC.cond rfl (fun h54 => ?_) (fun h54 => ?_)
      ·
        have hres := mayF_left (k := k) hr0 hy hnb (.inr (fun e => by have h2 := h54; rw [eqL_cells, decide_eq_true ((bare1_iff hk1).2 e)] at h2; cases h2))
        refine RC.seq ?_
        refine RC.region rfl ?_
        refine RL.ev (.assign rfl) rfl rfl ?_
        refine RL.nil (RC.back ?_)
        refine RC.done (rs := [.tmp 8]) (vs := [_]) rfl rfl ⟨rfl, trivial⟩ ?_
        -- end 13
        exact ⟨congrArg (Value.int .i64) hres.symm, S⟩
      ·
        have hbr : tBare y = y := (bare1_iff hk1).1 (by have h2 := h54; rw [eqL_cells] at h2; simpa using h2)
        refine RC.skip (RC.back ?_)
        refine RC.seq ?_
        refine RC.region rfl ?_
        refine RL.ev (.move rfl) rfl rfl ?_
        refine RL.ev (.field0 fo140_5 rfl) rfl rfl ?_
        refine RL.ev (.indexArr ar138 rfl rfl (by omega)) rfl rfl ?_
        refine RL.ev (.load1 sh31 rfl (hb_9.cell rfl)) rfl rfl ?_
        refine RL.ev (.loadR ((b.hi y.n).cells) sh272 rfl hb_14.row rfl) rfl rfl ?_
        refine RL.ev (.move rfl) rfl rfl ?_
        refine RL.ev (.as (.bin rfl rfl rfl) (wi64 (y := left - 1) (by rfl) (by omega))) rfl rfl ?_
        refine RL.ev (.move rfl) rfl rfl ?_
        refine RL.ev (.as (.bin rfl rfl rfl) (wi64 (y := left - 1 - p) (by rfl) (by omega))) rfl rfl ?_
        refine RL.call rfl ok188 (ih y.k1 (b.hi y.n) (left - 1 - p) w51 ((hA.nok y (getA_nok hy)).kids _ (by simp [Node.kids])) (by omega) (by omega) (by omega) hbf (hA.sub S)) rfl rfl ?_
        rintro _ w55 ⟨rfl, s56⟩
        have S := S.trans s56
        have hbf := hbf.sub s56
        have hb_9 := hb_9.sub s56
        have hb_11 := hb_11.sub s56
        have hb_13 := hb_13.sub s56
        have hb_14 := hb_14.sub s56
        obtain ⟨q, hq⟩ : ∃ q, mayF A k y.k1 (b.hi y.n) (left - 1 - p) = q := ⟨_, rfl⟩
        have hqle := mayF_le A k y.k1 (b.hi y.n) (left - 1 - p) (by omega)
        rw [hq] at hqle
        have hpn : ¬ (p < 0 ∨ ¬ tBare y = y) := (fun e => e.elim hp0 (fun e => e hbr))
        refine RL.ev (.as (v' := .int .i64 q) (.assign rfl) (by rw [hq])) rfl rfl ?_
        refine RL.nil (RC.back ?_)
        refine RC.seq ?_
        refine RC.seq ?_
        refine RC.region rfl ?_
        refine RL.ev (.move rfl) rfl rfl ?_
        refine RL.ev (.bin rfl rfl rfl) rfl rfl ?_
        refine RL.ev (.move rfl) rfl rfl ?_
        refine RL.split 136 rfl (fun h57 => ?_) (fun h57 => ?_)
        ·
          have hres := mayF_right (k := k) hr0 hy hnb hp hpn hq (.inl h57)
          refine RL.off rfl rfl ?_
          refine RL.off rfl rfl ?_
          refine RL.off rfl rfl ?_
          refine RL.off rfl rfl ?_
          refine RL.off rfl rfl ?_
          refine RL.off rfl rfl ?_
          refine RL.off rfl rfl ?_
          refine RL.ev (.pick_t rfl rfl) rfl rfl ?_
          refine RL.nil (RC.back ?_)
          refine RC.cond_t rfl ?_
          refine RC.seq ?_
          refine RC.region rfl ?_
          refine RL.ev (.assign rfl) rfl rfl ?_
          refine RL.nil (RC.back ?_)
          refine RC.done (rs := [.tmp 8]) (vs := [_]) rfl rfl ⟨rfl, trivial⟩ ?_
          -- end 14
          exact ⟨congrArg (Value.int .i64) hres.symm, S⟩
        ·
          have hq0 := h57
          refine RL.ev (.move rfl) rfl rfl ?_
          refine RL.ev (.move rfl) rfl rfl ?_
          refine RL.ev (.as (.bin rfl rfl rfl) (wi64 (y := p + q) (by rfl) (by omega))) rfl rfl ?_
          refine RL.ev (.as (.bin rfl rfl rfl) (wi64 (y := p + q + 1) (by rfl) (by omega))) rfl rfl ?_
          refine RL.ev (.field0 fo140_4 rfl) rfl rfl ?_
          refine RL.ev (.load1 sh2 rfl (hb_9.cell rfl)) rfl rfl ?_
          refine RL.ev (.bin rfl rfl rfl) rfl rfl ?_
          refine RL.ev (.pick_f rfl rfl) rfl rfl ?_
          refine RL.nil (RC.back ?_)
          refine RC.cond_dec rfl (fun h58 => ?_) (fun h58 => ?_)
          ·
            have hres := mayF_right (k := k) hr0 hy hnb hp hpn hq (.inr h58)
            refine RC.seq ?_
            refine RC.region rfl ?_
            refine RL.ev (.assign rfl) rfl rfl ?_
            refine RL.nil (RC.back ?_)
            refine RC.done (rs := [.tmp 8]) (vs := [_]) rfl rfl ⟨rfl, trivial⟩ ?_
            -- end 15
            exact ⟨congrArg (Value.int .i64) hres.symm, S⟩
          ·
            have hres := mayF_yes (k := k) hr0 hy hnb hp hpn hq (fun e => e.elim hq0 (fun e => h58 e))
            refine RC.skip (RC.back ?_)
            refine RC.seq ?_
            refine RC.region rfl ?_
            refine RL.ev (.move rfl) rfl rfl ?_
            refine RL.ev (.move rfl) rfl rfl ?_
            refine RL.ev (.as (.bin rfl rfl rfl) (wi64 (y := p + q) (by rfl) (by omega))) rfl rfl ?_
            refine RL.ev (.as (.bin rfl rfl rfl) (wi64 (y := p + q + 1) (by rfl) (by omega))) rfl rfl ?_
            refine RL.ev (.assign rfl) rfl rfl ?_
            refine RL.nil (RC.back ?_)
            refine RC.done (rs := [.tmp 8]) (vs := [_]) rfl rfl ⟨rfl, trivial⟩ ?_
            -- end 16
            exact ⟨congrArg (Value.int .i64) hres.symm, S⟩
end Go.Proofs.YtbjmllnddanniaaGreat
set_option linter.unusedVariables false
set_option linter.unusedSimpArgs false
namespace Go.Proofs.YtbjmllnddanniaaGreat
open Go Go.XL
theorem u64_half (x : BitVec 64) (i : Nat) : Value.int .u64 (IntKind.u64.wrap (((x >>> i).toNat : Int).tdiv 2)) = u64 (x >>> (i + 1)) := by
  unfold u64
  have h : ((x >>> i).toNat : Int).tdiv 2 = ((x >>> (i + 1)).toNat : Int) := by
    rw [Int.tdiv_eq_ediv_of_nonneg (Int.natCast_nonneg _), BitVec.toNat_ushiftRight, BitVec.toNat_ushiftRight, Nat.shiftRight_succ]
    omega
  rw [h, wrap_u64 ⟨Int.natCast_nonneg _, by have := toNat_lt (x >>> (i + 1)); omega⟩]

theorem c_move (x : BitVec 64) (k : Nat) (hk : k ≤ 64) (w : World) : FC Tryz.prog 277 [u64 x, .int .i64 k] w (Val (u64 (x >>> k)) w) := by
  refine FC.intro Tryz.func277 rfl Tryz.ntmps277 rfl ?_
  have S := Sub.refl w
  refine RC.seq ?_
  refine RC.region rfl ?_
  refine RL.ev (.assign rfl) rfl rfl ?_
  refine RL.nil (RC.back ?_)
  refine RC.seq ?_
  refine RC.seq ?_
  refine RC.region rfl ?_
  refine RL.ev (.assign rfl) rfl rfl ?_
  refine RL.nil (RC.back ?_)
  refine RC.block ?_
  refine RC.loop (α := Nat) (fun i => [(0, u64 (x >>> i)), (1, .int .i64 (k : Int)), (5, .int .i64 (i : Int))]) (fun i w1 => i ≤ k ∧ Sub w w1) (fun i => k - i) 0 (keep_of (by repeat (first | exact trivial | refine And.intro rfl ?_))) (⟨Nat.zero_le _, S⟩) (fun i w1 hJ => ?_)
  obtain ⟨hi, S⟩ := hJ
  refine RC.seq ?_
  refine RC.seq ?_
  refine RC.region rfl ?_
  refine RL.ev (.move rfl) rfl rfl ?_
  refine RL.ev (.move rfl) rfl rfl ?_
  refine RL.ev (.bin rfl rfl rfl) rfl rfl ?_
  refine RL.nil (RC.back ?_)
  refine RC.cond_dec rfl (fun h2 => ?_) (fun h2 => ?_)
  ·
    refine RC.skip (RC.back ?_)
    refine RC.seq ?_
    refine RC.block ?_
    refine RC.region rfl ?_
    refine RL.ev (.move rfl) rfl rfl ?_
    refine RL.ev (.as (v' := u64 (x >>> (i + 1))) (.quo rfl rfl (by decide)) (by exact u64_half _ _)) rfl rfl ?_
    refine RL.ev (.assign rfl) rfl rfl ?_
    refine RL.nil (RC.back ?_)
    refine RC.region rfl ?_
    refine RL.ev (.move rfl) rfl rfl ?_
    refine RL.ev (.as (.bin rfl rfl rfl) (wi64 (y := ((i + 1 : Nat) : Int)) (by omega) (by omega))) rfl rfl ?_
    refine RL.ev (.assign rfl) rfl rfl ?_
    exact RL.nil (fun a ka => ⟨i + 1, ⟨by omega, S⟩, by omega, ka.keep (keep_of (by repeat (first | exact trivial | refine And.intro rfl ?_)))⟩)
  ·
    obtain rfl : i = k := by omega
    refine RC.exit rfl (RC.back ?_)
    refine RC.seq ?_
    refine RC.region rfl ?_
    refine RL.ev (.move rfl) rfl rfl ?_
    refine RL.ev (.assign rfl) rfl rfl ?_
    refine RL.nil (RC.back ?_)
    refine RC.done (rs := [.tmp 4]) (vs := [_]) rfl rfl ⟨rfl, trivial⟩ ?_
    -- end 1
    exact ⟨rfl, S⟩

theorem mixOf_eq (x : BitVec 64) : mixOf x = (let a := (x ^^^ (x >>> 30)) * 13787848793156543929#64; let b := (a ^^^ (a >>> 27)) * 10723151780598845931#64; b ^^^ (b >>> 31)) := by
  simp only [mixOf, BitVec.mul_one]
theorem c_refOf (x : BitVec 64) (w : World) : FC Tryz.prog 246 [u64 x] w (Val (u64 (mixOf x)) w) := by
  rw [mixOf_eq]
  refine FC.intro Tryz.func246 rfl Tryz.ntmps246 rfl ?_
  have S := Sub.refl w
  refine RC.seq ?_
  refine RC.region rfl ?_
  refine RL.ev (.assign rfl) rfl rfl ?_
  refine RL.nil (RC.back ?_)
  refine RC.seq ?_
  refine RC.region rfl ?_
  refine RL.ev (.move rfl) rfl rfl ?_
  refine RL.ev (.move rfl) rfl rfl ?_
  refine RL.call rfl ok277 (c_move _ 30 (by decide) w) rfl rfl ?_
  rintro _ w1 ⟨rfl, s2⟩
  have S := S.trans s2
  refine RL.ev (.as (v' := _) (.bin rfl rfl rfl) (by exact u64_xor _ _)) rfl rfl ?_
  refine RL.ev (.assign rfl) rfl rfl ?_
  refine RL.nil (RC.back ?_)
  refine RC.seq ?_
  refine RC.region rfl ?_
  refine RL.ev (.move rfl) rfl rfl ?_
  refine RL.ev (.as (v' := _) (.bin rfl rfl rfl) (by exact u64_mul _ 13787848793156543929)) rfl rfl ?_
  refine RL.ev (.assign rfl) rfl rfl ?_
  refine RL.nil (RC.back ?_)
  refine RC.seq ?_
  refine RC.region rfl ?_
  refine RL.ev (.move rfl) rfl rfl ?_
  refine RL.ev (.move rfl) rfl rfl ?_
  refine RL.call rfl ok277 (c_move _ 27 (by decide) w1) rfl rfl ?_
  rintro _ w3 ⟨rfl, s4⟩
  have S := S.trans s4
  refine RL.ev (.as (v' := _) (.bin rfl rfl rfl) (by exact u64_xor _ _)) rfl rfl ?_
  refine RL.ev (.assign rfl) rfl rfl ?_
  refine RL.nil (RC.back ?_)
  refine RC.seq ?_
  refine RC.region rfl ?_
  refine RL.ev (.move rfl) rfl rfl ?_
  refine RL.ev (.as (v' := _) (.bin rfl rfl rfl) (by exact u64_mul _ 10723151780598845931)) rfl rfl ?_
  refine RL.ev (.assign rfl) rfl rfl ?_
  refine RL.nil (RC.back ?_)
  refine RC.seq ?_
  refine RC.region rfl ?_
  refine RL.ev (.move rfl) rfl rfl ?_
  refine RL.ev (.move rfl) rfl rfl ?_
  refine RL.call rfl ok277 (c_move _ 31 (by decide) w3) rfl rfl ?_
  rintro _ w5 ⟨rfl, s6⟩
  have S := S.trans s6
  refine RL.ev (.as (v' := _) (.bin rfl rfl rfl) (by exact u64_xor _ _)) rfl rfl ?_
  refine RL.ev (.assign rfl) rfl rfl ?_
  refine RL.nil (RC.back ?_)
  refine RC.done (rs := [.tmp 2]) (vs := [_]) rfl rfl ⟨rfl, trivial⟩ ?_
  -- end 1
  exact ⟨rfl, S⟩
theorem c_refRank (k : Int) (w : World) : FC Tryz.prog 192 [.int .i64 k] w (Val (u64 (rankOf k)) w) := by
  refine FC.intro Tryz.func192 rfl Tryz.ntmps192 rfl ?_
  have S := Sub.refl w
  refine RC.seq ?_
  refine RC.region rfl ?_
  refine RL.ev (.assign rfl) rfl rfl ?_
  refine RL.nil (RC.back ?_)
  refine RC.seq ?_
  refine RC.region rfl ?_
  refine RL.ev (.move rfl) rfl rfl ?_
  refine RL.ev (.as (v' := _) (.conv i2 i30 rfl) (by exact u64_of _)) rfl rfl ?_
  refine RL.ev (.as (v' := _) (.bin rfl rfl rfl) (by exact u64_add _ 7)) rfl rfl ?_
  refine RL.call rfl ok246 (c_refOf _ w) rfl rfl ?_
  rintro _ w1 ⟨rfl, s2⟩
  have S := S.trans s2
  refine RL.ev (.assign rfl) rfl rfl ?_
  refine RL.nil (RC.back ?_)
  refine RC.done (rs := [.tmp 2]) (vs := [_]) rfl rfl ⟨rfl, trivial⟩ ?_
  -- end 1
  exact ⟨rfl, S⟩
theorem c_refBefore (a b : Int) (w : World) : FC Tryz.prog 121 [.int .i64 a, .int .i64 b] w (Val (.bool (beforeK a b)) w) := by
  refine FC.intro Tryz.func121 rfl Tryz.ntmps121 rfl ?_
  have S := Sub.refl w
  refine RC.seq ?_
  refine RC.region rfl ?_
  refine RL.ev (.assign rfl) rfl rfl ?_
  refine RL.nil (RC.back ?_)
  refine RC.seq ?_
  refine RC.seq ?_
  refine RC.region rfl ?_
  refine RL.ev (.move rfl) rfl rfl ?_
  refine RL.call rfl ok192 (c_refRank _ w) rfl rfl ?_
  rintro _ w1 ⟨rfl, s2⟩
  have S := S.trans s2
  refine RL.ev (.move rfl) rfl rfl ?_
  refine RL.call rfl ok192 (c_refRank _ w1) rfl rfl ?_
  rintro _ w3 ⟨rfl, s4⟩
  have S := S.trans s4
  refine RL.ev (.bin rfl rfl rfl) rfl rfl ?_
  refine RL.nil (RC.back ?_)
  refine RC.cond_dec rfl (fun h5 => ?_) (fun h5 => ?_)
  ·
    refine RC.seq ?_
    refine RC.region rfl ?_
    refine RL.ev (.move rfl) rfl rfl ?_
    refine RL.call rfl ok192 (c_refRank _ w3) rfl rfl ?_
    rintro _ w6 ⟨rfl, s7⟩
    have S := S.trans s7
    refine RL.ev (.move rfl) rfl rfl ?_
    refine RL.call rfl ok192 (c_refRank _ w6) rfl rfl ?_
    rintro _ w8 ⟨rfl, s9⟩
    have S := S.trans s9
    refine RL.ev (.bin rfl rfl rfl) rfl rfl ?_
    refine RL.ev (.assign rfl) rfl rfl ?_
    refine RL.nil (RC.back ?_)
    refine RC.done (rs := [.tmp 4]) (vs := [_]) rfl rfl ⟨rfl, trivial⟩ ?_
    -- end 1
    exact ⟨congrArg Value.bool (decide_eq_decide.2 (by omega)), S⟩
  ·
    refine RC.skip (RC.back ?_)
    refine RC.seq ?_
    refine RC.region rfl ?_
    refine RL.ev (.move rfl) rfl rfl ?_
    refine RL.ev (.move rfl) rfl rfl ?_
    refine RL.ev (.bin rfl rfl rfl) rfl rfl ?_
    refine RL.ev (.assign rfl) rfl rfl ?_
    refine RL.nil (RC.back ?_)
    refine RC.done (rs := [.tmp 4]) (vs := [_]) rfl rfl ⟨rfl, trivial⟩ ?_
    -- end 2
    exact ⟨congrArg Value.bool (decide_eq_decide.2 (by omega)), S⟩

end Go.Proofs.YtbjmllnddanniaaGreat
set_option linter.unusedVariables false
set_option linter.unusedSimpArgs false
namespace Go.Proofs.YtbjmllnddanniaaGreat
open Go Go.XL
/-- are all those maps'? -/
noncomputable def allMaps (A : Ar) (l : List Int) : Bool := aokB A && l.all (isMapB A)
theorem may_neg {A : Ar} {r : Int} (hA : AOk A) (h : mayF A 201 r bnd0 200 < 0) : isMapB A r = false := isMapB_no (fun e => by have := (isMap_iff hA).2 e; omega)
theorem may_pos {A : Ar} {r : Int} (hA : AOk A) (h : ¬ mayF A 201 r bnd0 200 < 0) : isMapB A r = true := isMapB_yes ((isMap_iff hA).1 (by omega))
theorem all_take {α : Type} {p : α → Bool} {l : List α} {i : Nat} {x : α} (h : l[i]? = some x) (hp : (l.take i).all p = true) (hx : p x = true) : (l.take (i + 1)).all p = true := by
  rw [List.take_add_one, h, List.all_append, hp]; simp [hx]
theorem all_no {α : Type} {p : α → Bool} {l : List α} {i : Nat} {x : α} (h : l[i]? = some x) (hx : p x = false) : l.all p = false := by
  rw [List.all_eq_false]; exact ⟨x, List.mem_of_getElem? h, by rw [hx]; simp⟩
theorem c_tright (A : Ar) (na fa : Option Addr) (nc fc : Nat) (l : List Int) (m : Nat) (hm : m = l.length) (pa : Option Addr) (pc : Nat) (hl : l.length ≤ 10000) (hli : ∀ x ∈ l, U64 x) (w : World) (hA : ArR w na fa A) (hP : Sl w pa 1 (l.map fun x => [u6 x])) :
    FC Tryz.prog 114 [arV na fa nc fc A, .slice pa m pc] w (Val (.bool (allMaps A l)) w) := by
  subst hm
  have hN := hA.nodes
  have hFr := hA.free
  refine FC.intro Tryz.func114 rfl Tryz.ntmps114 rfl ?_
  have S := Sub.refl w
  refine RC.seq ?_
  refine RC.region rfl ?_
  refine RL.box rfl rfl rfl (fun b_2 w_2 e_2 z_2 hb_2 s_2 => ?_)
  have ge_2 := S.le e_2
  have S := S.trans s_2
  have hb_2 : Has w_2 b_2 ([.slice na A.nodes.length nc, .slice fa A.free.length fc]) _ := hb_2
  refine RL.ev (.assign rfl) rfl rfl ?_
  refine RL.nil (RC.back ?_)
  refine RC.seq ?_
  refine RC.region rfl ?_
  refine RL.ev (.loadR ([.slice na A.nodes.length nc, .slice fa A.free.length fc]) sh26 rfl hb_2.row rfl) rfl rfl ?_
  refine RL.ev (.buildS ze130 pl130 rfl rfl) rfl rfl ?_
  refine RL.box rfl rfl rfl (fun b_10 w_10 e_10 z_10 hb_10 s_10 => ?_)
  have ge_10 := S.le e_10
  have n_2__10 := hb_2.ne e_10
  have S := S.trans s_10
  have hb_2 := hb_2.sub s_10
  have hb_10 : Has w_10 b_10 (frC na fa nc fc A 0) 130 := hb_10
  refine RL.ev (.assign rfl) rfl rfl ?_
  refine RL.nil (RC.back ?_)
  refine RC.seq ?_
  refine RC.seq ?_
  refine RC.region rfl ?_
  refine RL.ev (.loadR ([.slice na A.nodes.length nc, .slice fa A.free.length fc]) sh26 rfl hb_2.row rfl) rfl rfl ?_
  refine RL.call rfl ok109 (c_aRight A na fa nc fc w_10 (hA.sub S)) rfl rfl ?_
  rintro _ w1 ⟨rfl, s2⟩
  have S := S.trans s2
  have hb_2 := hb_2.sub s2
  have hb_10 := hb_10.sub s2
  refine RL.ev (.not rfl) rfl rfl ?_
  refine RL.nil (RC.back ?_)
  refine RC.cond rfl (fun h3 => ?_) (fun h3 => ?_)
  ·
    have hno : aokB A = false := (by simpa using h3)
    refine RC.seq ?_
    refine RC.region rfl ?_
    refine RL.ev (.assign rfl) rfl rfl ?_
    refine RL.nil (RC.back ?_)
    refine RC.done (rs := [.tmp 4]) (vs := [_]) rfl rfl ⟨rfl, trivial⟩ ?_
    -- end 1
    rw [allMaps, hno]
    exact ⟨rfl, S⟩
  ·
    have hokb : aokB A = true := (by simpa using h3)
    have hok : AOk A := (aokB_iff A).1 hokb
    refine RC.skip (RC.back ?_)
    refine RC.seq ?_
    refine RC.seq ?_
    refine RC.region rfl ?_
    refine RL.ev (.move rfl) rfl rfl ?_
    refine RL.ev (.len sl73 rfl) rfl rfl ?_
    refine RL.ev (.move rfl) rfl rfl ?_
    refine RL.nil (RC.back ?_)
    refine RC.block ?_
    refine RC.loop (α := Nat) (fun i => [(5, .pointer (some ⟨b_10, 0, none⟩)), (14, .slice pa l.length pc), (15, .int .i64 (l.length : Int)), (16, .int .i64 (i : Int))]) (fun i w4 => i ≤ l.length ∧ (l.take i).all (isMapB A) = true ∧ Has w4 b_10 (frC na fa nc fc A 0) 130 ∧ Sub w w4) (fun i => l.length - i) 0 (keep_of (by repeat (first | exact trivial | refine And.intro rfl ?_))) (⟨Nat.zero_le _, rfl, hb_10, S⟩) (fun i w4 hJ => ?_)
    obtain ⟨hi, hp, hb_10, S⟩ := hJ
    refine RC.seq ?_
    refine RC.region rfl ?_
    refine RL.ev (.bin rfl rfl rfl) rfl rfl ?_
    refine RL.nil (RC.back ?_)
    refine RC.seq ?_
    refine RC.cond_dec rfl (fun h5 => ?_) (fun h5 => ?_)
    ·
      obtain ⟨y, hy⟩ := getSome (l := l) (i := i) (by omega)
      refine RC.skip (RC.back ?_)
      refine RC.seq ?_
      refine RC.block ?_
      refine RC.seq ?_
      refine RC.region rfl ?_
      refine RL.ev (.indexS sl73 rfl rfl (by omega) (hP.is (i := 0) (by simp only [List.length_map, List.length_cons, List.length_nil]; omega))) rfl rfl ?_
      refine RL.ev (.load1 sh31 rfl ((hP.sub S).one (enc := u6) (i := i) hy)) rfl rfl ?_
      refine RL.ev (.assign rfl) rfl rfl ?_
      refine RL.nil (RC.back ?_)
      refine RC.seq ?_
      refine RC.region rfl ?_
      refine RL.ev (.move rfl) rfl rfl ?_
      refine RL.ev (.move rfl) rfl rfl ?_
      refine RL.ev (.as (v' := .agg bnd0.cells.toArray) (.buildS ze272 pl272 rfl rfl) (by rfl)) rfl rfl ?_
      refine RL.call rfl ok188 (c_may A na fa nc fc 0 b_10 201 y bnd0 200 w4 (hli y (List.mem_of_getElem? hy)) (by decide) (by decide) (by decide) hb_10 (hA.sub S)) rfl rfl ?_
      rintro _ w6 ⟨rfl, s7⟩
      have S := S.trans s7
      have hb_10 := hb_10.sub s7
      refine RL.ev (.bin rfl rfl rfl) rfl rfl ?_
      refine RL.nil (RC.back ?_)
      refine RC.cond_dec rfl (fun h8 => ?_) (fun h8 => ?_)
      ·
        have hbad := may_neg hok h8
        refine RC.seq ?_
        refine RC.region rfl ?_
        refine RL.ev (.assign rfl) rfl rfl ?_
        refine RL.nil (RC.back ?_)
        refine RC.done (rs := [.tmp 4]) (vs := [_]) rfl rfl ⟨rfl, trivial⟩ ?_
        -- end 2
        rw [allMaps, all_no hy hbad, Bool.and_false]
        exact ⟨rfl, S⟩
      ·
        have hgood := may_pos hok h8
        refine RC.skip (RC.back ?_)
        refine RC.region rfl ?_
        refine RL.ev (.as (.bin rfl rfl rfl) (wi64 (y := ((i + 1 : Nat) : Int)) (by omega) (by omega))) rfl rfl ?_
        refine RL.ev (.move rfl) rfl rfl ?_
        exact RL.nil (fun a ka => ⟨i + 1, ⟨by omega, all_take hy hp hgood, hb_10, S⟩, by omega, ka.keep (keep_of (by repeat (first | exact trivial | refine And.intro rfl ?_)))⟩)
    ·
      obtain rfl : i = l.length := (by omega)
      rw [List.take_length] at hp
      refine RC.exit rfl (RC.back ?_)
      refine RC.seq ?_
      refine RC.region rfl ?_
      refine RL.ev (.assign rfl) rfl rfl ?_
      refine RL.nil (RC.back ?_)
      refine RC.done (rs := [.tmp 4]) (vs := [_]) rfl rfl ⟨rfl, trivial⟩ ?_
      -- end 3
      rw [allMaps, hp, hokb]
      exact ⟨rfl, S⟩
theorem isMapB_ok (A : Ar) (r : Int) : (aokB A && isMapB A r) = isMapB A r := by
  cases h : isMapB A r with
  | false => exact Bool.and_false _
  | true => rw [aokB_yes ((isMapB_iff A r).1 h).1]; rfl
theorem c_tRight (A : Ar) (na fa : Option Addr) (nc fc : Nat) (r : Int) (hr : U64 r) (w : World) (hA : ArR w na fa A) :
    FC Tryz.prog 54 [arV na fa nc fc A, .int .u64 r] w (Val (.bool (isMapB A r)) w) := by
  have hN := hA.nodes
  have hFr := hA.free
  refine FC.intro Tryz.func54 rfl Tryz.ntmps54 rfl ?_
  have S := Sub.refl w
  refine RC.seq ?_
  refine RC.region rfl ?_
  refine RL.box rfl rfl rfl (fun b_2 w_2 e_2 z_2 hb_2 s_2 => ?_)
  have ge_2 := S.le e_2
  have S := S.trans s_2
  have hb_2 : Has w_2 b_2 ([.slice na A.nodes.length nc, .slice fa A.free.length fc]) _ := hb_2
  refine RL.ev (.assign rfl) rfl rfl ?_
  refine RL.nil (RC.back ?_)
  refine RC.seq ?_
  refine RC.region rfl ?_
  refine RL.ev (.loadR ([.slice na A.nodes.length nc, .slice fa A.free.length fc]) sh26 rfl hb_2.row rfl) rfl rfl ?_
  refine RL.ev (.move rfl) rfl rfl ?_
  refine RL.buildSlice1 sl73 _ ze31 rfl rfl rfl rfl rfl rfl rfl (fun b_7 w_7 e_7 z_7 hb_7 s_7 => ?_)
  have ge_7 := S.le e_7
  have n_2__7 := hb_2.ne e_7
  have S := S.trans s_7
  have hb_2 := hb_2.sub s_7
  refine RL.call rfl ok114 (c_tright A na fa nc fc [r] 1 rfl (some ⟨b_7, 0, none⟩) 1 (Nat.le_of_ble_eq_true rfl) (fun x hx => by rw [List.mem_singleton] at hx; rw [hx]; exact hr) w_7 (hA.sub S) (Has.sl1 (enc := u6) (l := [r]) hb_7)) rfl rfl ?_
  rintro _ w1 ⟨rfl, s2⟩
  have S := S.trans s2
  have hb_2 := hb_2.sub s2
  have hb_7 := hb_7.sub s2
  refine RL.ev (.assign rfl) rfl rfl ?_
  refine RL.nil (RC.back ?_)
  refine RC.done (rs := [.tmp 4]) (vs := [_]) rfl rfl ⟨rfl, trivial⟩ ?_
  -- end 1
  refine ⟨congrArg Value.bool ?_, S⟩
  rw [allMaps, List.all_cons, List.all_nil, Bool.and_true, isMapB_ok]

theorem c_top (l : List It) (a : Option Addr) (c m : Nat) (hm : m = l.length) (w : World) (hl : Sl w a 2 (l.map It.cells)) (hb : l.length ≤ 1000000000) :
    FC Tryz.prog 61 [.slice a m c] w (Val (.int .i64 (topL l)) w) := by
  subst hm
  refine FC.intro Tryz.func61 rfl Tryz.ntmps61 rfl ?_
  have S := Sub.refl w
  refine RC.seq ?_
  refine RC.region rfl ?_
  refine RL.ev (.assign rfl) rfl rfl ?_
  refine RL.nil (RC.back ?_)
  refine RC.seq ?_
  refine RC.region rfl ?_
  refine RL.ev (.assign rfl) rfl rfl ?_
  refine RL.nil (RC.back ?_)
  refine RC.seq ?_
  refine RC.seq ?_
  refine RC.region rfl ?_
  refine RL.ev (.move rfl) rfl rfl ?_
  refine RL.ev (.len sl42 rfl) rfl rfl ?_
  refine RL.ev (.move rfl) rfl rfl ?_
  refine RL.nil (RC.back ?_)
  refine RC.block ?_
  refine RC.loop (α := Nat × Int) (fun x => [(0, .slice a l.length c), (3, .int .i64 x.2), (6, .slice a l.length c), (7, .int .i64 (l.length : Int)), (8, .int .i64 (x.1 : Int))]) (fun x w1 => x.1 ≤ l.length ∧ x.2 = topAt l x.1 ∧ Sub w w1) (fun x => l.length - x.1) (0, -1) (keep_of (by repeat (first | exact trivial | refine And.intro rfl ?_))) (⟨Nat.zero_le _, rfl, S⟩) (fun x w1 hJ => ?_)
  obtain ⟨i, t⟩ := x; obtain ⟨hi, ht, S⟩ := hJ; simp only [] at hi ht; have htr := topAt_rng l i; rw [← ht] at htr
  refine RC.seq ?_
  refine RC.region rfl ?_
  refine RL.ev (.bin rfl rfl rfl) rfl rfl ?_
  refine RL.nil (RC.back ?_)
  refine RC.seq ?_
  refine RC.cond_dec rfl (fun h2 => ?_) (fun h2 => ?_)
  ·
    obtain ⟨x, hx⟩ := getSome (l := l) (i := i) (by omega)
    refine RC.skip (RC.back ?_)
    refine RC.seq ?_
    refine RC.block ?_
    refine RC.seq ?_
    refine RC.region rfl ?_
    refine RL.ev (.move rfl) rfl rfl ?_
    refine RL.ev (.indexS sl42 rfl rfl (by omega) (hl.is (i := 0) (by simp only [List.length_map, List.length_cons, List.length_nil]; omega))) rfl rfl ?_
    refine RL.ev (.loadR (x.cells) sh51 rfl ((hl.sub S).rowAt (enc := It.cells) (i := i) hx) rfl) rfl rfl ?_
    refine RL.alloc ze51 rfl rfl (fun b_5 w_5 e_5 z_5 hb_5 s_5 => ?_)
    have ge_5 := S.le e_5
    have S := S.trans s_5
    refine RL.ev (.assign rfl) rfl rfl ?_
    refine RL.store sh51 rfl rfl rfl hb_5 (by exact Nat.le_of_ble_eq_true rfl) (by rfl) rfl (fun w3 z3 hb_5 a3 => ?_)
    have S := S.upd a3 ge_5
    have hb_5 : Has w3 b_5 (x.cells) _ := hb_5.now (by kernel_rfl)
    refine RL.nil (RC.back ?_)
    refine RC.seq ?_
    refine RC.draw rfl mxo (by kernel_rfl) ?_
    refine RQ.ev (.move rfl) rfl rfl ?_
    refine RQ.ev (.bin rfl rfl rfl) rfl rfl ?_
    refine RQ.ev (.move rfl) rfl rfl ?_
    refine RQ.split 15 rfl (fun h4 => ?_) (fun h4 => ?_)
    ·
      have hge : topAt l (i + 1) = i := (by rw [topAt, if_pos]; left; rw [← ht]; exact h4)
      refine RQ.off rfl rfl ?_
      refine RQ.off rfl rfl ?_
      refine RQ.off rfl rfl ?_
      refine RQ.off rfl rfl ?_
      refine RQ.off rfl rfl ?_
      refine RQ.off rfl rfl ?_
      refine RQ.off rfl rfl ?_
      refine RQ.off rfl rfl ?_
      refine RQ.ev (.pick_t rfl rfl) rfl rfl ?_
      refine RQ.nil (fun w5 s6 => RC.back ?_)
      have S := S.trans s6
      have hb_5 := hb_5.sub s6
      refine RC.cond_t rfl ?_
      refine RC.region rfl ?_
      refine RL.ev (.move rfl) rfl rfl ?_
      refine RL.ev (.assign rfl) rfl rfl ?_
      refine RL.nil (RC.back ?_)
      refine RC.region rfl ?_
      refine RL.ev (.as (.bin rfl rfl rfl) (wi64 (y := ((i + 1 : Nat) : Int)) (by omega) (by omega))) rfl rfl ?_
      refine RL.ev (.move rfl) rfl rfl ?_
      exact RL.nil (fun a ka => ⟨(i + 1, _), ⟨by omega, hge.symm, S⟩, by omega, ka.keep (keep_of (by repeat (first | exact trivial | refine And.intro rfl ?_)))⟩)
    ·
      obtain ⟨z, hz⟩ := getSome (l := l) (i := t.toNat) (by omega)
      refine RQ.ev (.field0 fo51_0 rfl) rfl rfl ?_
      refine RQ.ev (.load1 sh2 rfl (hb_5.cell rfl)) rfl rfl ?_
      refine RQ.ev (.move rfl) rfl rfl ?_
      refine RQ.ev (.move rfl) rfl rfl ?_
      refine RQ.ev (.indexS sl42 rfl rfl (by omega) (hl.is (i := 0) (by simp only [List.length_map, List.length_cons, List.length_nil]; omega))) rfl rfl ?_
      refine RQ.ev (.fieldA fo51_0 rfl) rfl rfl ?_
      refine RQ.ev (.load1 sh2 rfl ((hl.sub S).cell (enc := It.cells) (j := 0) hz rfl)) rfl rfl ?_
      refine RQ.call rfl ok121 (fun w' s' => c_refBefore x.k z.k w') rfl rfl ?_
      refine RQ.ev (.pick_f rfl rfl) rfl rfl ?_
      refine RQ.nil (fun w7 s8 => RC.back ?_)
      have S := S.trans s8
      have hb_5 := hb_5.sub s8
      refine RC.cond rfl (fun h9 => ?_) (fun h9 => ?_)
      ·
        have hge : topAt l (i + 1) = i := (by rw [topAt, if_pos]; right; rw [← ht, kAt_get hx, kAt_get hz]; exact h9)
        refine RC.region rfl ?_
        refine RL.ev (.move rfl) rfl rfl ?_
        refine RL.ev (.assign rfl) rfl rfl ?_
        refine RL.nil (RC.back ?_)
        refine RC.region rfl ?_
        refine RL.ev (.as (.bin rfl rfl rfl) (wi64 (y := ((i + 1 : Nat) : Int)) (by omega) (by omega))) rfl rfl ?_
        refine RL.ev (.move rfl) rfl rfl ?_
        exact RL.nil (fun a ka => ⟨(i + 1, _), ⟨by omega, hge.symm, S⟩, by omega, ka.keep (keep_of (by repeat (first | exact trivial | refine And.intro rfl ?_)))⟩)
      ·
        have hge : topAt l (i + 1) = t := (by rw [topAt, if_neg, ht]; rw [← ht, kAt_get hx, kAt_get hz, h9]; rintro (e | e); exact absurd e (by omega); cases e)
        refine RC.skip (RC.back ?_)
        refine RC.region rfl ?_
        refine RL.ev (.as (.bin rfl rfl rfl) (wi64 (y := ((i + 1 : Nat) : Int)) (by omega) (by omega))) rfl rfl ?_
        refine RL.ev (.move rfl) rfl rfl ?_
        exact RL.nil (fun a ka => ⟨(i + 1, _), ⟨by omega, hge.symm, S⟩, by omega, ka.keep (keep_of (by repeat (first | exact trivial | refine And.intro rfl ?_)))⟩)
  ·
    obtain rfl : i = l.length := (by omega)
    refine RC.exit rfl (RC.back ?_)
    refine RC.seq ?_
    refine RC.region rfl ?_
    refine RL.ev (.move rfl) rfl rfl ?_
    refine RL.ev (.assign rfl) rfl rfl ?_
    refine RL.nil (RC.back ?_)
    refine RC.done (rs := [.tmp 2]) (vs := [_]) rfl rfl ⟨rfl, trivial⟩ ?_
    -- end 1
    rw [ht]
    exact ⟨rfl, S⟩
end Go.Proofs.YtbjmllnddanniaaGreat
set_option linter.unusedVariables false
set_option linter.unusedSimpArgs false
namespace Go.Proofs.YtbjmllnddanniaaGreat
open Go Go.XL
/-- all nodes that were there are as they were -/
structure Ext (A A' : Ar) : Prop where
  len : A'.nodes.length = A.nodes.length
  keep : ∀ (i : Nat) x, A.nodes[i]? = some x → ¬ x.kind = 0 → A'.nodes[i]? = some x
theorem Ext.refl (A : Ar) : Ext A A := ⟨rfl, fun _ _ h _ => h⟩
theorem Ext.trans {A B C : Ar} (h : Ext A B) (k : Ext B C) : Ext A C := ⟨k.len.trans h.len, fun i x hx hk => k.keep i x (h.keep i x hx hk) hk⟩
theorem Ext.get {A A' : Ar} {r : Int} {x : Node} (h : Ext A A') (hg : getA A r = some x) : getA A' r = some x := by
  have h1 := getA_get hg
  rw [← getA_same (A := A) (B := A') (by rw [h1.1, h.keep _ _ h1.1 h1.2])]
  exact hg
theorem make_ext {A : Ar} {x : Node} (hA : AOk A) (h : 0 < A.free.length) : Ext A (makeA A x) := by
  refine ⟨by simp [makeA], fun i y hy hk => ?_⟩
  have hin := lastAt_in hA h
  simp only [makeA]
  rw [List.getElem?_set_ne, hy]
  intro e
  have := (hA.kind i y hy).2 (by
    have h2 := List.mem_of_getElem? (lastAt_get h)
    rwa [show lastAt A = (i : Int) by omega] at h2)
  exact hk this

/-- an arena, and what is wrong -/
abbrev St := Ar × Int
/-- s' comes from s; at most n nodes were made -/
structure Gs (n : Nat) (s s' : St) : Prop where
  ext : Ext s.1 s'.1
  ok : AOk s'.1
  free : s.1.free.length ≤ s'.1.free.length + n
  stay : ¬ s.2 = 0 → s'.2 = s.2
  full : s.2 = 0 → ¬ s'.2 = 0 → s'.2 = 2 ∧ s.1.free.length < n
theorem Gs.back {n : Nat} {s s' : St} (h : Gs n s s') (h0 : s'.2 = 0) : s.2 = 0 := Classical.byContradiction fun e => e (by rw [← h.stay e]; exact h0)
theorem Gs.refl {s : St} (h : AOk s.1) : Gs 0 s s := ⟨Ext.refl _, h, Nat.le_refl _, fun _ => rfl, fun h k => absurd h k⟩
theorem Gs.mono {n m : Nat} {s s' : St} (h : Gs n s s') (hn : n ≤ m) : Gs m s s' := ⟨h.ext, h.ok, by have := h.free; omega, h.stay, fun a b => ⟨(h.full a b).1, by have := (h.full a b).2; omega⟩⟩
theorem Gs.trans {n m : Nat} {a b c : St} (h : Gs n a b) (k : Gs m b c) : Gs (n + m) a c := by
  refine ⟨h.ext.trans k.ext, k.ok, by have := h.free; have := k.free; omega, fun e => ?_, fun e e2 => ?_⟩
  · have h1 := h.stay e
    rw [k.stay (by rw [h1]; exact e), h1]
  · by_cases q : b.2 = 0
    · have h1 := k.full q e2; have h2 := h.free; exact ⟨h1.1, by omega⟩
    · have h1 := h.full e q
      exact ⟨by rw [k.stay q, h1.1], by omega⟩
/-- the size that a node tells -/
def sizeA (A : Ar) (r : Int) : Int := match getA A r with
  | none => 0
  | some y => y.s
/-- one node is made -/
def MkX (s : St) (x : Node) (s' : St) (r : Int) : Prop :=
  (¬ s.2 = 0 ∧ s' = s ∧ r = 0) ∨ (s.2 = 0 ∧ mayMake s.1 x ∧ 0 < s.1.free.length ∧ s' = (makeA s.1 x, 0) ∧ r = makeR s.1) ∨
  (s.2 = 0 ∧ mayMake s.1 x ∧ s.1.free.length = 0 ∧ s' = (s.1, 2) ∧ r = 0) ∨ (s.2 = 0 ∧ ¬ mayMake s.1 x ∧ s' = (s.1, 1) ∧ r = 0)
theorem MkX.gs {s s' : St} {x : Node} {r : Int} (h : MkX s x s' r) (hA : AOk s.1) (hm : s.2 = 0 → mayMake s.1 x) : Gs 1 s s' := by
  rcases h with ⟨h0, rfl, rfl⟩ | ⟨h0, hm, hf, rfl, rfl⟩ | ⟨h0, hm, hf, rfl, rfl⟩ | ⟨h0, hn, rfl, rfl⟩
  · exact (Gs.refl hA).mono (by omega)
  · refine ⟨make_ext hA hf, make_ok hm hf, ?_, fun e => absurd h0 e, fun _ e => absurd rfl e⟩
    simp only [makeA, List.length_take]; omega
  · exact ⟨Ext.refl _, hA, by omega, fun e => absurd h0 e, fun _ _ => ⟨rfl, by omega⟩⟩
  · exact absurd (hm h0) hn
theorem MkX.u64 {s s' : St} {x : Node} {r : Int} (h : MkX s x s' r) : U64 r := by
  rcases h with ⟨_, _, rfl⟩ | ⟨_, hm, hf, _, rfl⟩ | ⟨_, _, _, _, rfl⟩ | ⟨_, _, _, rfl⟩
  · unfold U64; decide
  · exact ofR_U64 (make_isR hm.1 hf)
  · unfold U64; decide
  · unfold U64; decide
theorem MkX.get {s s' : St} {x : Node} {r : Int} (h : MkX s x s' r) (h0 : s'.2 = 0) : s.2 = 0 ∧ mayMake s.1 x ∧ 0 < s.1.free.length ∧ getA s'.1 r = some { x with gen := genAt s.1 (lastAt s.1) } ∧ Ext s.1 s'.1 := by
  rcases h with ⟨h1, rfl, rfl⟩ | ⟨h1, hm, hf, rfl, rfl⟩ | ⟨_, _, _, rfl, _⟩ | ⟨_, _, rfl, _⟩
  · exact absurd h0 h1
  · exact ⟨h1, hm, hf, get_made hm hf, make_ext hm.1 hf⟩
  · exact absurd h0 (show ¬ (2 : Int) = 0 by decide)
  · exact absurd h0 (show ¬ (1 : Int) = 0 by decide)
/-- what is free later was free before -/
def Fr (A B : Ar) : Prop := ∀ p ∈ B.free, p ∈ A.free
theorem MkX.fr {s s' : St} {x : Node} {r : Int} (h : MkX s x s' r) : Fr s.1 s'.1 := by
  rcases h with ⟨h1, rfl, rfl⟩ | ⟨h1, hm, hf, rfl, rfl⟩ | ⟨_, _, _, rfl, _⟩ | ⟨_, _, rfl, _⟩
  · exact fun p hp => hp
  · exact fun p hp => List.mem_of_mem_take hp
  · exact fun p hp => hp
  · exact fun p hp => hp
def getN (A : Ar) (r : Int) : Node := (getA A r).getD (bareN 0)
theorem getN_yes {A : Ar} {r : Int} {x : Node} (h : getA A r = some x) : getN A r = x := by unfold getN; rw [h]; rfl
theorem getN_v (A : Ar) (r : Int) : ∃ e, getV A r = .tuple #[(getN A r).val, .int .i64 e] := by
  unfold getN
  cases h : getA A r with
  | none => exact ⟨4, getV_no h⟩
  | some x => exact ⟨0, getV_yes h⟩
def wvC (na fa : Option Addr) (nc fc : Nat) (A : Ar) (bad : Int) : List Value := [.slice na A.nodes.length nc, .slice fa A.free.length fc, .int .i64 bad]
def wvA (na fa : Option Addr) (nc fc : Nat) (A : Ar) : List Value := [.slice na A.nodes.length nc, .slice fa A.free.length fc]
theorem row_pref {w : World} {b : Nat} {xs ys : List Value} {e : TypeId} (h : Has w b (xs ++ ys) e) : Row w ⟨b, 0, none⟩ xs := fun i v hv => h.row i v (by rw [List.getElem?_append_left (lt_of_get hv)]; exact hv)
def FoG (ty : TypeId) (b : Nat) (s : St) (C : Nat → Prop) (u : World) : Prop :=
  C b ∧ ∃ na fa nc fc M, Has u b (wvC na fa nc fc s.1 s.2) ty ∧ s.1.nodes.length ≤ nc ∧ s.1.free.length ≤ fc ∧ Ft M (fun u => ArR u na fa s.1) u ∧ ¬ M b ∧ ∀ k, M k → C k
theorem FoG.ft {ty : TypeId} {b : Nat} {s : St} {M : Nat → Prop} {w : World} {na fa : Option Addr} {nc fc : Nat} (h : Has w b (wvC na fa nc fc s.1 s.2) ty) (h1 : s.1.nodes.length ≤ nc) (h2 : s.1.free.length ≤ fc) (h3 : Ft M (fun u => ArR u na fa s.1) w) (h4 : ¬ M b) :
    Ft (fun k => k = b ∨ M k) (FoG ty b s (fun k => k = b ∨ M k)) w :=
  ⟨fun k hk => hk.elim (fun e => e ▸ h.lt) (h3.lt k), fun u a => ⟨.inl rfl, na, fa, nc, fc, M, h.step a (fun hn => hn (.inl rfl)), h1, h2, h3.step a (fun k hk hn => hn (.inr hk)), h4, fun k hk => .inr hk⟩⟩
theorem FoG.nok {ty : TypeId} {b : Nat} {s : St} {C : Nat → Prop} {u : World} (h : FoG ty b s C u) : ∀ x ∈ s.1.nodes, x.ok := by
  obtain ⟨_, na, fa, nc, fc, M, _, _, _, h, _⟩ := h
  exact h.now.nok
theorem place_of_at {a : Nat} (h : a < 512) : placeR ((a : Int) + 1) = a ∧ genR ((a : Int) + 1) = 0 ∧ U64 ((a : Int) + 1) ∧ rightR ((a : Int) + 1) = true := by
  have hn : nodeR ((a : Int) + 1) := (nodeR_iff _).2 (by omega)
  refine ⟨by unfold placeR; rw [if_pos hn]; omega, by unfold genR; rw [if_pos hn]; omega, by unfold U64; omega, hn.2⟩
/-- the first i of the free places of a built arena -/
def freeB (size i : Nat) : List Int := (List.range i).map fun (j : Nat) => (size : Int) - 1 - j
theorem freeB_len (size i : Nat) : (freeB size i).length = i := by simp [freeB]
theorem freeB_succ (size i : Nat) : freeB size (i + 1) = freeB size i ++ [(size : Int) - 1 - i] := by simp [freeB, List.range_succ]
theorem freeB_mem {size i : Nat} {x : Int} : x ∈ freeB size i ↔ (size : Int) - i ≤ x ∧ x < size := by
  unfold freeB
  rw [List.mem_map]
  constructor
  · rintro ⟨j, hj, rfl⟩
    have := List.mem_range.1 hj
    omega
  · rintro ⟨h1, h2⟩
    exact ⟨((size : Int) - 1 - x).toNat, List.mem_range.2 (by omega), by omega⟩
theorem freeB_nodup (size : Nat) : ∀ i, (freeB size i).Nodup
  | 0 => by simp [freeB]
  | i + 1 => by
    rw [freeB_succ, List.nodup_append]
    refine ⟨freeB_nodup size i, by simp, fun a ha b hb e => ?_⟩
    rw [List.mem_singleton] at hb
    have := freeB_mem.1 ha
    omega
theorem row_set0 {w : World} {b : Nat} {e : TypeId} {sz : Nat} {rows : List (List Value)} {r : List Value} {i : Nat} (h : Has w b (splice rows.flatten (i * sz) r) e) (hl : ∀ r ∈ rows, r.length = sz) (hi : i < rows.length) (hr : r.length = sz) : Has w b (rows.set i r).flatten e := by
  have := Has.row_set (extra := []) (rows := rows) (i := i) (sz := sz) (r := r) (by rw [List.append_nil]; exact h) hl hi hr
  rw [List.append_nil] at this
  exact this
theorem slDrop {w : World} {a : Option Addr} {sz : Nat} {rows : List (List Value)} (h : Sl w a sz rows) (k : Nat) {c : Nat} (hc : rows.length ≤ c) : Sl w (if c = k then a else a.map (·.add (k * sz))) sz (rows.drop k) := by
  by_cases e : c = k
  · rw [if_pos e, List.drop_eq_nil_of_le (by omega)]; exact Sl.nil _ _ _
  · rw [if_neg e]
    refine ⟨fun hne => ?_, fun i r hr => ?_⟩
    · have := h.some (by intro e2; rw [e2] at hne; simp at hne)
      cases a with
      | none => simp at this
      | some x => rfl
    · rw [List.getElem?_drop] at hr
      have h1 := h.row (k + i) r hr
      have := h.some (by intro e2; rw [e2] at hr; simp at hr)
      cases a with
      | none => simp at this
      | some x =>
        simp only [Option.map_some, Option.getD_some] at h1 ⊢
        rw [add_add, ← Nat.add_mul]
        exact h1
theorem slTakeM {α : Type} {w : World} {a : Option Addr} {sz : Nat} {f : α → List Value} {l : List α} (h : Sl w a sz (l.map f)) (k : Nat) : Sl w a sz ((l.take k).map f) := by rw [List.map_take]; exact h.take k
theorem slDropM {α : Type} {w : World} {a : Option Addr} {sz : Nat} {f : α → List Value} {l : List α} (h : Sl w a sz (l.map f)) (k : Nat) {c : Nat} (hc : l.length ≤ c) : Sl w (if c = k then a else a.map (·.add (k * sz))) sz ((l.drop k).map f) := by rw [List.map_drop]; exact slDrop h k (by rw [List.length_map]; exact hc)
end Go.Proofs.YtbjmllnddanniaaGreat
set_option linter.unusedVariables false
set_option linter.unusedSimpArgs false
namespace Go.Proofs.YtbjmllnddanniaaGreat
open Go Go.XL
theorem srt_iff {l : List It} : Srt l ↔ ∀ i, i + 1 < l.length → kAt l i < kAt l (i + 1) := by
  have kk : ∀ i (h : i < l.length), kAt l i = l[i].k := fun i h => kAt_get (List.getElem?_eq_getElem h)
  constructor
  · intro h i hi
    rw [kk i (by omega), kk (i + 1) hi]
    exact List.pairwise_iff_getElem.1 h i (i + 1) (by omega) hi (by omega)
  · intro h
    refine List.pairwise_iff_getElem.2 fun i j hi hj hij => ?_
    have key : ∀ d, i + 1 + d < l.length → kAt l i < kAt l (i + 1 + d) := by
      intro d
      induction d with
      | zero => intro hd; exact h i hd
      | succ d ih => intro hd; have h1 := ih (by omega); have h2 := h (i + 1 + d) hd; rw [show i + 1 + d + 1 = i + 1 + (d + 1) by omega] at h2; omega
    have := key (j - i - 1) (by omega)
    rw [show i + 1 + (j - i - 1) = j by omega, kk i hi, kk j hj] at this
    exact this
end Go.Proofs.YtbjmllnddanniaaGreat
set_option linter.unusedVariables false
set_option linter.unusedSimpArgs false
namespace Go.Proofs.YtbjmllnddanniaaGreat
open Go Go.XL
theorem it_rows {l : List It} : ∀ r ∈ l.map It.cells, r.length = 2 := fun r hr => by obtain ⟨x, _, rfl⟩ := List.mem_map.1 hr; rfl
def putStep (key v : Int) (s : List It × Bool) (x : It) : List It × Bool :=
  (if x.k = key then (if s.2 = false ∧ key ≤ x.k then s.1 ++ [⟨key, v⟩] else s.1) else (if s.2 = false ∧ key ≤ x.k then s.1 ++ [⟨key, v⟩] else s.1) ++ [x], s.2 || decide (key ≤ x.k))
def putS (l : List It) (key v : Int) : Nat → List It × Bool
  | 0 => ([], false)
  | i + 1 => putStep key v (putS l key v i) (l.getD i it0)
def putR (l : List It) (key v : Int) : List It := if (putS l key v l.length).2 then (putS l key v l.length).1 else (putS l key v l.length).1 ++ [⟨key, v⟩]
theorem putStep_len {key v : Int} {s : List It × Bool} {x : It} {i : Nat} (h : s.1.length ≤ i + (if s.2 then 1 else 0)) : (putStep key v s x).1.length ≤ i + 1 + (if (putStep key v s x).2 then 1 else 0) := by
  obtain ⟨o, d⟩ := s
  simp only [putStep] at h ⊢
  by_cases h2 : key ≤ x.k
  · rw [decide_eq_true h2, Bool.or_true, if_pos rfl]
    cases d <;> simp only [Bool.false_eq_true, if_false, if_true, true_and, false_and] at h ⊢
    · rw [if_pos h2]; split <;> simp <;> omega
    · split <;> simp <;> omega
  · rw [decide_eq_false h2, Bool.or_false]
    cases d <;> simp only [Bool.false_eq_true, if_false, if_true, true_and, false_and] at h ⊢
    · rw [if_neg h2]; split <;> simp <;> omega
    · split <;> simp <;> omega
theorem putS_len (l : List It) (key v : Int) : ∀ i, (putS l key v i).1.length ≤ i + (if (putS l key v i).2 then 1 else 0)
  | 0 => by simp [putS]
  | i + 1 => putStep_len (putS_len l key v i)
theorem putS_step {l : List It} {key v : Int} {i : Nat} {x : It} (h : l[i]? = some x) : putS l key v (i + 1) = (if x.k = key then (if (putS l key v i).2 = false ∧ key ≤ x.k then (putS l key v i).1 ++ [⟨key, v⟩] else (putS l key v i).1) else (if (putS l key v i).2 = false ∧ key ≤ x.k then (putS l key v i).1 ++ [⟨key, v⟩] else (putS l key v i).1) ++ [x], (putS l key v i).2 || decide (key ≤ x.k)) := by
  have : l.getD i it0 = x := by rw [List.getD_eq_getElem?_getD, h]; rfl
  rw [putS, this, putStep]
theorem putS_srt {l : List It} (hs : Srt l) (key v : Int) : ∀ i, i ≤ l.length → (putS l key v i).2 = (l.take i).any (fun x => decide (key ≤ x.k)) ∧ (putS l key v i).1 = (l.take i).filter (fun x => decide (x.k < key)) ++ (if (putS l key v i).2 then ⟨key, v⟩ :: (l.take i).filter (fun x => decide (key < x.k)) else [])
  | 0, _ => by simp [putS]
  | i + 1, hi => by
    obtain ⟨x, hx⟩ := getSome (l := l) (i := i) (by omega)
    obtain ⟨h1, h2⟩ := putS_srt hs key v i (by omega)
    have ht : l.take (i + 1) = l.take i ++ [x] := by rw [List.take_add_one, hx]; rfl
    rw [putS_step hx, ht, h1]
    simp only [List.any_append, List.any_cons, List.any_nil, Bool.or_false, List.filter_append, List.filter_cons, List.filter_nil]
    refine ⟨trivial, ?_⟩
    rw [h1] at h2
    have hlow : ∀ y ∈ l.take i, y.k < x.k := fun y hy => by
      obtain ⟨j, hj⟩ := List.getElem?_of_mem hy
      have hjl := lt_of_get hj
      rw [List.length_take] at hjl
      rw [List.getElem?_take_of_lt (by omega)] at hj
      have := List.pairwise_iff_getElem.1 hs j i (by omega) (by omega) (by omega)
      rw [getElem_of hj, getElem_of hx] at this
      exact this
    cases ha : (l.take i).any (fun x => decide (key ≤ x.k)) with
    | false =>
      rw [ha] at h2
      simp only [Bool.false_eq_true, if_false, List.append_nil] at h2
      simp only [true_and, Bool.false_or]
      rw [h2]
      have hno : (l.take i).filter (fun x => decide (key < x.k)) = [] := by
        rw [List.filter_eq_nil_iff]
        intro y hy
        have := List.any_eq_false.1 ha y hy
        simp only [decide_eq_true_eq] at this ⊢
        omega
      rw [hno]
      by_cases e1 : x.k = key
      · rw [if_pos e1, if_pos (by omega), decide_eq_false (show ¬ x.k < key by omega), decide_eq_true (show key ≤ x.k by omega), decide_eq_false (show ¬ key < x.k by omega)]
        simp
      · rw [if_neg e1]
        by_cases e2 : key ≤ x.k
        · rw [if_pos e2, decide_eq_false (show ¬ x.k < key by omega), decide_eq_true e2, decide_eq_true (show key < x.k by omega)]
          simp
        · rw [if_neg e2, decide_eq_true (show x.k < key by omega), decide_eq_false e2]
          simp
    | true =>
      rw [ha] at h2
      simp only [if_true] at h2
      obtain ⟨y, hy, hyk⟩ := List.any_eq_true.1 ha
      have hyk := of_decide_eq_true hyk
      have := hlow y hy
      simp only [Bool.true_or, if_true]
      rw [if_neg (by omega), if_neg (by rintro ⟨e, _⟩; cases e), h2, decide_eq_false (show ¬ x.k < key by omega), decide_eq_true (show key < x.k by omega)]
      simp
theorem putR_srt {l : List It} (hs : Srt l) (key v : Int) : putR l key v = l.filter (fun x => decide (x.k < key)) ++ ⟨key, v⟩ :: l.filter (fun x => decide (key < x.k)) := by
  obtain ⟨h1, h2⟩ := putS_srt hs key v l.length (Nat.le_refl _)
  rw [List.take_length] at h1 h2
  unfold putR
  rw [h2, h1]
  cases ha : l.any (fun x => decide (key ≤ x.k)) with
  | true => rfl
  | false =>
    have hno : l.filter (fun x => decide (key < x.k)) = [] := by
      rw [List.filter_eq_nil_iff]
      intro y hy
      have := List.any_eq_false.1 ha y hy
      simp only [decide_eq_true_eq] at this ⊢
      omega
    rw [hno]; simp
theorem putR_ok {l : List It} (hs : Srt l) (key v : Int) : Srt (putR l key v) := by
  rw [putR_srt hs]
  exact Srt.join (List.Pairwise.filter _ hs) (List.Pairwise.filter _ hs) (fun y hy => of_decide_eq_true (List.mem_filter.1 hy).2) (fun y hy => of_decide_eq_true (List.mem_filter.1 hy).2)
theorem putR_mem {l : List It} (hs : Srt l) {key v : Int} {y : It} : y ∈ putR l key v ↔ y = ⟨key, v⟩ ∨ y ∈ l ∧ ¬ y.k = key := by
  rw [putR_srt hs, List.mem_append, List.mem_cons, List.mem_filter, List.mem_filter, decide_eq_true_iff, decide_eq_true_iff]
  constructor
  · rintro (h | h | h)
    · exact .inr ⟨h.1, by omega⟩
    · exact .inl h
    · exact .inr ⟨h.1, by omega⟩
  · rintro (h | h)
    · exact .inr (.inl h)
    · rcases Int.lt_or_lt_of_ne h.2 with q | q
      · exact .inl ⟨h.1, q⟩
      · exact .inr (.inr ⟨h.1, q⟩)
theorem putR_len (l : List It) (key v : Int) : (putR l key v).length ≤ l.length + 1 := by
  have := putS_len l key v l.length
  unfold putR
  split
  · rename_i h; rw [if_pos h] at this; exact this
  · rename_i h; rw [if_neg h] at this; simp; omega
theorem c_refPut (l : List It) (a : Option Addr) (c m : Nat) (hm : m = l.length) (key v : Int) (w : World) (hl : Sl w a 2 (l.map It.cells)) (hb : l.length ≤ 1000000) :
    FC Tryz.prog 27 [.slice a m c, .int .i64 key, .int .i64 v] w (fun u w' => ∃ a' c', u = .slice a' ((putR l key v).map It.cells).length c' ∧ Ows w.heap.size w' 51 2 (.slice a' ((putR l key v).map It.cells).length c') ((putR l key v).map It.cells) ∧ Sub w w') := by
  subst hm
  have hpl := putS_len l key v
  refine FC.intro Tryz.func27 rfl Tryz.ntmps27 rfl ?_
  have S := Sub.refl w
  refine RC.seq ?_
  refine RC.region rfl ?_
  refine RL.ev (.assign rfl) rfl rfl ?_
  refine RL.nil (RC.back ?_)
  refine RC.seq ?_
  refine RC.region rfl ?_
  refine RL.buildSlice0 sl42 rfl rfl (fun b_11 w_11 e_11 z_11 hb_11 s_11 => ?_)
  have ge_11 := S.le e_11
  have S := S.trans s_11
  refine RL.ev (.assign rfl) rfl rfl ?_
  refine RL.nil (RC.back ?_)
  refine RC.seq ?_
  refine RC.region rfl ?_
  refine RL.ev (.assign rfl) rfl rfl ?_
  refine RL.nil (RC.back ?_)
  refine RC.seq ?_
  refine RC.seq ?_
  refine RC.region rfl ?_
  refine RL.ev (.move rfl) rfl rfl ?_
  refine RL.ev (.len sl42 rfl) rfl rfl ?_
  refine RL.ev (.move rfl) rfl rfl ?_
  refine RL.nil (RC.back ?_)
  refine RC.block ?_
  refine RC.loop (α := Nat × List It × Bool × Option Addr × Nat × Nat) (fun x => [(1, .int .i64 key), (2, .int .i64 v), (7, .slice x.2.2.2.1 x.2.2.2.2.1 x.2.2.2.2.2), (8, .bool x.2.2.1), (12, .slice a l.length c), (13, .int .i64 (l.length : Int)), (14, .int .i64 (x.1 : Int))]) (fun x w1 => (x.1 ≤ l.length ∧ putS l key v x.1 = (x.2.1, x.2.2.1)) ∧ Ows w.heap.size w1 51 2 (.slice x.2.2.2.1 x.2.2.2.2.1 x.2.2.2.2.2) (x.2.1.map It.cells) ∧ Sub w w1) (fun x => l.length - x.1) (0, [], false, some ⟨b_11, 0, none⟩, 0, 0) (keep_of (by repeat (first | exact trivial | refine And.intro rfl ?_))) (⟨⟨Nat.zero_le _, rfl⟩, Ows.lit0 hb_11 (by omega), S⟩) (fun x w1 hJ => ?_)
  obtain ⟨i, o, d, ao, mo, co⟩ := x; obtain ⟨⟨hi, hp⟩, o7, S⟩ := hJ; simp only [] at hi hp o7; obtain rfl := o7.sl.2; have hol := hpl i; rw [hp] at hol; simp only [] at hol; have hol2 : o.length ≤ i + 1 := Nat.le_trans hol (by split <;> omega); have szB := S.size
  refine RC.seq ?_
  refine RC.region rfl ?_
  refine RL.ev (.bin rfl rfl rfl) rfl rfl ?_
  refine RL.nil (RC.back ?_)
  refine RC.seq ?_
  refine RC.cond_dec rfl (fun h2 => ?_) (fun h2 => ?_)
  ·
    obtain ⟨x, hx⟩ := getSome (l := l) (i := i) (by omega)
    have hst := putS_step (key := key) (v := v) hx
    rw [hp] at hst
    simp only [] at hst
    refine RC.skip (RC.back ?_)
    refine RC.seq ?_
    refine RC.block ?_
    refine RC.seq ?_
    refine RC.region rfl ?_
    refine RL.ev (.indexS sl42 rfl rfl (by omega) (hl.is (i := 0) (by simp only [List.length_map, List.length_cons, List.length_nil]; omega))) rfl rfl ?_
    refine RL.ev (.loadR (x.cells) sh51 rfl ((hl.sub S).rowAt (enc := It.cells) (i := i) hx) rfl) rfl rfl ?_
    refine RL.alloc ze51 rfl rfl (fun b_10 w_10 e_10 z_10 hb_10 s_10 => ?_)
    have ge_10 := S.le e_10
    have d_o7_b_10 := o7.neNew e_10
    have S := S.trans s_10
    have o7 := o7.sub s_10
    have szB := Nat.le_trans szB s_10.size
    refine RL.store sh51 rfl rfl rfl hb_10 (by exact Nat.le_of_ble_eq_true rfl) (by rfl) rfl (fun w3 z3 hb_10 a3 => ?_)
    have S := S.upd a3 ge_10
    have o7 := o7.updD a3 d_o7_b_10
    have szB := Nat.le_trans szB a3.size
    have hb_10 : Has w3 b_10 (x.cells) _ := hb_10.now (by kernel_rfl)
    refine RL.nil (RC.back ?_)
    refine RC.cutx (α := List It × Bool × Option Addr × Nat × Nat) (fun y_ => [(1, .int .i64 key), (2, .int .i64 v), (7, .slice y_.2.2.1 y_.2.2.2.1 y_.2.2.2.2), (8, .bool y_.2.1), (10, .pointer (some ⟨b_10, 0, none⟩)), (12, .slice a l.length c), (13, .int .i64 (l.length : Int)), (14, .int .i64 (i : Int))]) (fun y_ w4 => (y_.1 = (if d = false ∧ key ≤ x.k then o ++ [⟨key, v⟩] else o) ∧ y_.2.1 = (d || decide (key ≤ x.k)) ∧ y_.1.length ≤ i + 2) ∧ Ows w.heap.size w4 51 2 (.slice y_.2.2.1 y_.2.2.2.1 y_.2.2.2.2) (y_.1.map It.cells) ∧ Has w4 b_10 x.cells 51 ∧ (∀ k, ob (.slice y_.2.2.1 y_.2.2.2.1 y_.2.2.2.2) = some k → k ≠ b_10) ∧ Sub w w4) ?_ (fun y_ w4 hJ => ?_)
    ·
      refine RC.seq ?_
      refine RC.region rfl ?_
      refine RL.ev (.move rfl) rfl rfl ?_
      refine RL.ev (.not rfl) rfl rfl ?_
      refine RL.ev (.move rfl) rfl rfl ?_
      refine RL.splitB 20 rfl (fun h5 => ?_) (fun h5 => ?_)
      ·
        have hd : d = false := (by simpa using h5)
        refine RL.ev (.field0 fo51_0 rfl) rfl rfl ?_
        refine RL.ev (.load1 sh2 rfl (hb_10.cell rfl)) rfl rfl ?_
        refine RL.ev (.move rfl) rfl rfl ?_
        refine RL.ev (.bin rfl rfl rfl) rfl rfl ?_
        refine RL.ev (.pick_t rfl rfl) rfl rfl ?_
        refine RL.nil (RC.back ?_)
        refine RC.cond_dec rfl (fun h6 => ?_) (fun h6 => ?_)
        ·
          have hk := h6
          refine RC.seq ?_
          refine RC.region rfl ?_
          refine RL.ev (.move rfl) rfl rfl ?_
          refine RL.ev (.move rfl) rfl rfl ?_
          refine RL.ev (.move rfl) rfl rfl ?_
          refine RL.ev (.buildS ze51 pl51 rfl rfl) rfl rfl ?_
          refine RL.buildSlice1 sl42 _ ze51 rfl rfl rfl rfl rfl rfl rfl (fun b_30 w_30 e_30 z_30 hb_30 s_30 => ?_)
          have ge_30 := S.le e_30
          have n_10__30 := hb_10.ne e_30
          have d_o7_b_30 := o7.neNew e_30
          have S := S.trans s_30
          have o7 := o7.sub s_30
          have szB := Nat.le_trans szB s_30.size
          have hb_10 := hb_10.sub s_30
          have sz_31 := S.size
          have ltb_10_31 := hb_10.lt
          have ltb_30_31 := hb_30.lt
          refine RL.append2 (base := w.heap.size) (rows := o.map It.cells) (news := [_]) sl42 ze51 rfl rfl rfl rfl (.inl o7) (Has.slOne hb_30) rfl (by intro r hr; rw [List.mem_singleton] at hr; subst hr; rfl) rfl (by (try simp only [List.length_map, List.length_nil, List.length_append, List.length_cons]); omega) (by (try simp only [List.length_map, List.length_nil, List.length_append, List.length_cons]); omega) (by omega) rfl rfl (fun v_31 w_31 hc_31 ho_31 ag_31 ob_31 => ?_)
          have o31 := ho_31 (.inl (by simp))
          rw [show _ ++ [_] = ((o ++ [(⟨key, v⟩ : It)]).map It.cells) from by rw [List.map_append]; rfl] at o31
          have d_o31_b_10 := obNe ob_31 d_o7_b_10 hb_10.lt
          have S := S.agrN ag_31 (fun k e => Nat.le_trans (by omega) e.2)
          have szB := Nat.le_trans szB ag_31.size
          have hb_10 := hb_10.step ag_31 (fun e => d_o7_b_10 _ e.1 rfl)
          obtain ⟨a_31, c_31, rfl, k_31⟩ := o31.form
          refine RL.ev (.assign rfl) rfl rfl ?_
          refine RL.nil (RC.back ?_)
          refine RC.region rfl ?_
          refine RL.ev (.assign rfl) rfl rfl ?_
          exact RL.nil (fun a ka => ⟨(o ++ [⟨key, v⟩], true, a_31, _, c_31), ⟨⟨by rw [if_pos ⟨hd, hk⟩], by rw [decide_eq_true hk, Bool.or_true], by simp; omega⟩, o31, hb_10, d_o31_b_10, S⟩, ka.keep (keep_of (by repeat (first | exact trivial | refine And.intro rfl ?_)))⟩)
        ·
          have hk := h6
          exact RC.skip (fun a ka => ⟨(o, d, ao, _, co), ⟨⟨by rw [if_neg (fun e => hk e.2)], by rw [decide_eq_false hk, Bool.or_false], by simp; omega⟩, o7, hb_10, d_o7_b_10, S⟩, ka.keep (keep_of (by repeat (first | exact trivial | refine And.intro rfl ?_)))⟩)
      ·
        have hd : d = true := (by simpa using h5)
        refine RL.off rfl rfl ?_
        refine RL.off rfl rfl ?_
        refine RL.off rfl rfl ?_
        refine RL.off rfl rfl ?_
        refine RL.ev (.pick_f rfl rfl) rfl rfl ?_
        refine RL.nil (RC.back ?_)
        refine RC.cond_f rfl ?_
        exact RC.skip (fun a ka => ⟨(o, d, ao, _, co), ⟨⟨by rw [if_neg (fun e => by rw [hd] at e; cases e.1)], by rw [hd]; rfl, by simp; omega⟩, o7, hb_10, d_o7_b_10, S⟩, ka.keep (keep_of (by repeat (first | exact trivial | refine And.intro rfl ?_)))⟩)
    obtain ⟨o1, d1, a1, m1, c1⟩ := y_
    obtain ⟨⟨ho1, hd1, hl1⟩, o7, hb_10, d7, S⟩ := hJ
    simp only [] at ho1 hd1 hl1 o7 d7
    obtain rfl := o7.sl.2
    rw [← ho1, ← hd1] at hst
    have szB := S.size
    refine RC.seq ?_
    refine RC.region rfl ?_
    refine RL.ev (.field0 fo51_0 rfl) rfl rfl ?_
    refine RL.ev (.load1 sh2 rfl (hb_10.cell rfl)) rfl rfl ?_
    refine RL.ev (.move rfl) rfl rfl ?_
    refine RL.ev (.bin rfl rfl rfl) rfl rfl ?_
    refine RL.nil (RC.back ?_)
    refine RC.cond_dec rfl (fun h7 => ?_) (fun h7 => ?_)
    ·
      have hne := h7
      refine RC.region rfl ?_
      refine RL.ev (.move rfl) rfl rfl ?_
      refine RL.ev (.loadR (x.cells) sh51 rfl hb_10.row rfl) rfl rfl ?_
      refine RL.buildSlice1 sl42 _ ze51 rfl rfl rfl rfl rfl rfl rfl (fun b_38 w_38 e_38 z_38 hb_38 s_38 => ?_)
      have ge_38 := S.le e_38
      have n_10__38 := hb_10.ne e_38
      have d_o7_b_38 := o7.neNew e_38
      have S := S.trans s_38
      have hb_10 := hb_10.sub s_38
      have o7 := o7.sub s_38
      have szB := Nat.le_trans szB s_38.size
      have sz_39 := S.size
      have ltb_10_39 := hb_10.lt
      have ltb_38_39 := hb_38.lt
      refine RL.append2 (base := w.heap.size) (rows := o1.map It.cells) (news := [_]) sl42 ze51 rfl rfl rfl rfl (.inl o7) (Has.slOne hb_38) rfl (by intro r hr; rw [List.mem_singleton] at hr; subst hr; rfl) rfl (by (try simp only [List.length_map, List.length_nil, List.length_append, List.length_cons]); omega) (by (try simp only [List.length_map, List.length_nil, List.length_append, List.length_cons]); omega) (by omega) rfl rfl (fun v_39 w_39 hc_39 ho_39 ag_39 ob_39 => ?_)
      have o39 := ho_39 (.inl (by simp))
      rw [show _ ++ [_] = ((o1 ++ [x]).map It.cells) from by rw [List.map_append]; rfl] at o39
      have d_o39_b_10 := obNe ob_39 d7 hb_10.lt
      have S := S.agrN ag_39 (fun k e => Nat.le_trans (by omega) e.2)
      have hb_10 := hb_10.step ag_39 (fun e => d7 _ e.1 rfl)
      have szB := Nat.le_trans szB ag_39.size
      obtain ⟨a_39, c_39, rfl, k_39⟩ := o39.form
      refine RL.ev (.assign rfl) rfl rfl ?_
      refine RL.nil (RC.back ?_)
      refine RC.region rfl ?_
      refine RL.ev (.as (.bin rfl rfl rfl) (wi64 (y := ((i + 1 : Nat) : Int)) (by omega) (by omega))) rfl rfl ?_
      refine RL.ev (.move rfl) rfl rfl ?_
      exact RL.nil (fun a ka => ⟨(i + 1, o1 ++ [x], d1, a_39, _, c_39), ⟨⟨by omega, by rw [hst, if_neg hne]⟩, o39, S⟩, by omega, ka.keep (keep_of (by repeat (first | exact trivial | refine And.intro rfl ?_)))⟩)
    ·
      have hne := Decidable.not_not.1 h7
      refine RC.skip (RC.back ?_)
      refine RC.region rfl ?_
      refine RL.ev (.as (.bin rfl rfl rfl) (wi64 (y := ((i + 1 : Nat) : Int)) (by omega) (by omega))) rfl rfl ?_
      refine RL.ev (.move rfl) rfl rfl ?_
      exact RL.nil (fun a ka => ⟨(i + 1, o1, d1, a1, _, c1), ⟨⟨by omega, by rw [hst, if_pos hne]⟩, o7, S⟩, by omega, ka.keep (keep_of (by repeat (first | exact trivial | refine And.intro rfl ?_)))⟩)
  ·
    obtain rfl : i = l.length := (by omega)
    refine RC.exit rfl (RC.back ?_)
    refine RC.seq ?_
    refine RC.seq ?_
    refine RC.region rfl ?_
    refine RL.ev (.move rfl) rfl rfl ?_
    refine RL.ev (.not rfl) rfl rfl ?_
    refine RL.nil (RC.back ?_)
    refine RC.cond rfl (fun h8 => ?_) (fun h8 => ?_)
    ·
      have hd : d = false := (by simpa using h8)
      have hres : putR l key v = o ++ [⟨key, v⟩] := (by rw [putR, hp, hd]; rfl)
      refine RC.region rfl ?_
      refine RL.ev (.move rfl) rfl rfl ?_
      refine RL.ev (.move rfl) rfl rfl ?_
      refine RL.ev (.move rfl) rfl rfl ?_
      refine RL.ev (.buildS ze51 pl51 rfl rfl) rfl rfl ?_
      refine RL.buildSlice1 sl42 _ ze51 rfl rfl rfl rfl rfl rfl rfl (fun b_47 w_47 e_47 z_47 hb_47 s_47 => ?_)
      have ge_47 := S.le e_47
      have d_o7_b_47 := o7.neNew e_47
      have S := S.trans s_47
      have o7 := o7.sub s_47
      have szB := Nat.le_trans szB s_47.size
      have sz_48 := S.size
      have ltb_47_48 := hb_47.lt
      refine RL.append2 (base := w.heap.size) (rows := o.map It.cells) (news := [_]) sl42 ze51 rfl rfl rfl rfl (.inl o7) (Has.slOne hb_47) rfl (by intro r hr; rw [List.mem_singleton] at hr; subst hr; rfl) rfl (by (try simp only [List.length_map, List.length_nil, List.length_append, List.length_cons]); omega) (by (try simp only [List.length_map, List.length_nil, List.length_append, List.length_cons]); omega) (by omega) rfl rfl (fun v_48 w_48 hc_48 ho_48 ag_48 ob_48 => ?_)
      have o48 := ho_48 (.inl (by simp))
      rw [show _ ++ [_] = ((o ++ [(⟨key, v⟩ : It)]).map It.cells) from by rw [List.map_append]; rfl] at o48
      have S := S.agrN ag_48 (fun k e => Nat.le_trans (by omega) e.2)
      have szB := Nat.le_trans szB ag_48.size
      obtain ⟨a_48, c_48, rfl, k_48⟩ := o48.form
      refine RL.ev (.assign rfl) rfl rfl ?_
      refine RL.nil (RC.back ?_)
      refine RC.seq ?_
      refine RC.region rfl ?_
      refine RL.ev (.move rfl) rfl rfl ?_
      refine RL.ev (.assign rfl) rfl rfl ?_
      refine RL.nil (RC.back ?_)
      refine RC.done (rs := [.tmp 6]) (vs := [_]) rfl rfl ⟨rfl, trivial⟩ ?_
      -- end 1
      rw [hres]
      exact ⟨_, _, rfl, o48, S⟩
    ·
      have hd : d = true := (by simpa using h8)
      have hres : putR l key v = o := (by rw [putR, hp, hd]; rfl)
      refine RC.skip (RC.back ?_)
      refine RC.seq ?_
      refine RC.region rfl ?_
      refine RL.ev (.move rfl) rfl rfl ?_
      refine RL.ev (.assign rfl) rfl rfl ?_
      refine RL.nil (RC.back ?_)
      refine RC.done (rs := [.tmp 6]) (vs := [_]) rfl rfl ⟨rfl, trivial⟩ ?_
      -- end 2
      rw [hres]
      exact ⟨_, _, rfl, o7, S⟩
end Go.Proofs.YtbjmllnddanniaaGreat
set_option linter.unusedVariables false
set_option linter.unusedSimpArgs false
namespace Go.Proofs.YtbjmllnddanniaaGreat
open Go Go.XL
def fieldAt (P : Program) (t : TypeId) (i : Nat) : Field := match P.underlying t with
  | some (.struct fs) => fs[i]!
  | _ => default
structure OpT where
  box : Int
  kind : Int
  a : Int
  b : Int
  deriving DecidableEq
def OpT.cells (o : OpT) : List Value := [.int .i64 o.box, .int .i64 o.kind, .int .i64 o.a, .int .i64 o.b]
def OpT.ok (o : OpT) : Prop := I64 o.box ∧ I64 o.kind ∧ I64 o.a ∧ I64 o.b
def hasAP (box kind : Int) : Prop := (kind = 1 ∧ ¬ box = 4) ∨ (¬ kind = 1 ∧ (kind = 3 ∨ kind = 5) ∧ ((kind = 3 ∧ box < 3) ∨ box = 1)) ∨ (¬ kind = 1 ∧ ¬ (kind = 3 ∨ kind = 5) ∧ (kind = 2 ∨ kind = 4))
def hasBP (box kind : Int) : Prop := kind = 2 ∧ ¬ box = 3
def kindP (box kind : Int) : Prop := 1 ≤ box ∧ box ≤ 4 ∧ 1 ≤ kind ∧ kind ≤ 6 ∧ ¬ ((box = 2 ∨ box = 4) ∧ (kind = 4 ∨ kind = 5))
def okP (o : OpT) : Prop := kindP o.box o.kind ∧ -1073741824 ≤ o.a ∧ o.a ≤ 1073741824 ∧ -1073741824 ≤ o.b ∧ o.b ≤ 1073741824 ∧ (hasAP o.box o.kind ∨ o.a = 0) ∧ (hasBP o.box o.kind ∨ o.b = 0)
def readsP (o : OpT) : Prop := okP o ∧ (o.kind = 1 ∨ o.kind = 6 ∨ (o.box = 1 ∧ (o.kind = 4 ∨ o.kind = 5)))
instance (b k : Int) : Decidable (hasAP b k) := by unfold hasAP; infer_instance
instance (b k : Int) : Decidable (hasBP b k) := by unfold hasBP; infer_instance
instance (b k : Int) : Decidable (kindP b k) := by unfold kindP; infer_instance
instance (o : OpT) : Decidable (okP o) := by unfold okP; infer_instance
instance (o : OpT) : Decidable (readsP o) := by unfold readsP; infer_instance
end Go.Proofs.YtbjmllnddanniaaGreat
set_option linter.unusedVariables false
set_option linter.unusedSimpArgs false
namespace Go.Proofs.YtbjmllnddanniaaGreat
open Go Go.XL
def cmpI (a b : Int) : Int := if a < b then -1 else if b < a then 1 else 0
def cmpIt (x y : It) : Int := if cmpI x.k y.k = 0 then cmpI x.v y.v else cmpI x.k y.k
def lessP (x y : It) : Prop := x.k < y.k ∨ x.k = y.k ∧ x.v < y.v
instance (x y : It) : Decidable (lessP x y) := by unfold lessP; infer_instance
theorem cmpI_lt {a b : Int} (h : a < b) : cmpI a b = -1 := if_pos h
theorem cmpI_gt {a b : Int} (h : b < a) : cmpI a b = 1 := by rw [cmpI, if_neg (by omega), if_pos h]
theorem cmpI_eq {a b : Int} (h : a = b) : cmpI a b = 0 := by rw [cmpI, if_neg (by omega), if_neg (by omega)]
theorem cmpI_cases (a b : Int) : (a < b ∧ cmpI a b = -1) ∨ (b < a ∧ cmpI a b = 1) ∨ (a = b ∧ cmpI a b = 0) := by
  rcases Int.lt_trichotomy a b with h | h | h
  · exact .inl ⟨h, cmpI_lt h⟩
  · exact .inr (.inr ⟨h, cmpI_eq h⟩)
  · exact .inr (.inl ⟨h, cmpI_gt h⟩)
theorem cmpIt_cases (x y : It) : (lessP x y ∧ cmpIt x y = -1) ∨ (lessP y x ∧ cmpIt x y = 1) ∨ (x = y ∧ cmpIt x y = 0) := by
  unfold lessP cmpIt
  rcases cmpI_cases x.k y.k with ⟨h, e⟩ | ⟨h, e⟩ | ⟨h, e⟩ <;> rw [e]
  · exact .inl ⟨.inl h, rfl⟩
  · exact .inr (.inl ⟨.inl h, rfl⟩)
  · rw [if_pos rfl]
    rcases cmpI_cases x.v y.v with ⟨h2, e2⟩ | ⟨h2, e2⟩ | ⟨h2, e2⟩ <;> rw [e2]
    · exact .inl ⟨.inr ⟨h, h2⟩, rfl⟩
    · exact .inr (.inl ⟨.inr ⟨h.symm, h2⟩, rfl⟩)
    · refine .inr (.inr ⟨?_, rfl⟩); cases x; cases y; simp_all
theorem c_isNaN (a : Int) (w : World) : FC Tryz.prog 107 [.int .i64 a] w (Val (.bool false) w) := by
  refine FC.intro Tryz.func107 rfl Tryz.ntmps107 rfl ?_
  have S := Sub.refl w
  refine RC.seq ?_
  refine RC.region rfl ?_
  refine RL.ev (.assign rfl) rfl rfl ?_
  refine RL.nil (RC.back ?_)
  refine RC.seq ?_
  refine RC.region rfl ?_
  refine RL.ev (.move rfl) rfl rfl ?_
  refine RL.ev (.move rfl) rfl rfl ?_
  refine RL.ev (.as (v' := .bool false) (.bin rfl rfl rfl) (congrArg Value.bool (decide_eq_false (fun h => h rfl)))) rfl rfl ?_
  refine RL.ev (.assign rfl) rfl rfl ?_
  refine RL.nil (RC.back ?_)
  refine RC.done (rs := [.tmp 2]) (vs := [_]) rfl rfl ⟨rfl, trivial⟩ ?_
  -- end 1
  exact ⟨rfl, S⟩
theorem c_compare (a b : Int) (w : World) : FC Tryz.prog 49 [.int .i64 a, .int .i64 b] w (Val (.int .i64 (cmpI a b)) w) := by
  refine FC.intro Tryz.func49 rfl Tryz.ntmps49 rfl ?_
  have S := Sub.refl w
  refine RC.seq ?_
  refine RC.region rfl ?_
  refine RL.ev (.assign rfl) rfl rfl ?_
  refine RL.nil (RC.back ?_)
  refine RC.seq ?_
  refine RC.region rfl ?_
  refine RL.ev (.move rfl) rfl rfl ?_
  refine RL.call rfl ok107 (c_isNaN a w) rfl rfl ?_
  rintro _ w1 ⟨rfl, s2⟩
  have S := S.trans s2
  refine RL.ev (.assign rfl) rfl rfl ?_
  refine RL.nil (RC.back ?_)
  refine RC.seq ?_
  refine RC.region rfl ?_
  refine RL.ev (.move rfl) rfl rfl ?_
  refine RL.call rfl ok107 (c_isNaN b w1) rfl rfl ?_
  rintro _ w3 ⟨rfl, s4⟩
  have S := S.trans s4
  refine RL.ev (.assign rfl) rfl rfl ?_
  refine RL.nil (RC.back ?_)
  refine RC.seq ?_
  refine RC.seq ?_
  refine RC.region rfl ?_
  refine RL.ev (.move rfl) rfl rfl ?_
  refine RL.nil (RC.back ?_)
  refine RC.cond_f rfl ?_
  refine RC.skip (RC.back ?_)
  refine RC.seq ?_
  refine RC.seq ?_
  refine RC.region rfl ?_
  refine RL.ev (.move rfl) rfl rfl ?_
  refine RL.nil (RC.back ?_)
  refine RC.cond_f rfl ?_
  refine RC.skip (RC.back ?_)
  refine RC.seq ?_
  refine RC.seq ?_
  refine RC.region rfl ?_
  refine RL.ev (.move rfl) rfl rfl ?_
  refine RL.ev (.move rfl) rfl rfl ?_
  refine RL.ev (.bin rfl rfl rfl) rfl rfl ?_
  refine RL.nil (RC.back ?_)
  refine RC.cond_dec rfl (fun h5 => ?_) (fun h5 => ?_)
  ·
    have h16 : a < b := h5
    refine RC.seq ?_
    refine RC.region rfl ?_
    refine RL.ev (.assign rfl) rfl rfl ?_
    refine RL.nil (RC.back ?_)
    refine RC.done (rs := [.tmp 4]) (vs := [_]) rfl rfl ⟨rfl, trivial⟩ ?_
    -- end 1
    rw [cmpI_lt h16]
    exact ⟨rfl, S⟩
  ·
    have h16 : ¬ a < b := h5
    refine RC.skip (RC.back ?_)
    refine RC.seq ?_
    refine RC.seq ?_
    refine RC.region rfl ?_
    refine RL.ev (.move rfl) rfl rfl ?_
    refine RL.ev (.move rfl) rfl rfl ?_
    refine RL.ev (.bin rfl rfl rfl) rfl rfl ?_
    refine RL.nil (RC.back ?_)
    refine RC.cond_dec rfl (fun h6 => ?_) (fun h6 => ?_)
    ·
      have h19 : b < a := h6
      refine RC.seq ?_
      refine RC.region rfl ?_
      refine RL.ev (.assign rfl) rfl rfl ?_
      refine RL.nil (RC.back ?_)
      refine RC.done (rs := [.tmp 4]) (vs := [_]) rfl rfl ⟨rfl, trivial⟩ ?_
      -- end 2
      rw [cmpI_gt h19]
      exact ⟨rfl, S⟩
    ·
      have h19 : ¬ b < a := h6
      refine RC.skip (RC.back ?_)
      refine RC.seq ?_
      refine RC.region rfl ?_
      refine RL.ev (.assign rfl) rfl rfl ?_
      refine RL.nil (RC.back ?_)
      refine RC.done (rs := [.tmp 4]) (vs := [_]) rfl rfl ⟨rfl, trivial⟩ ?_
      -- end 3
      rw [cmpI_eq (by omega)]
      exact ⟨rfl, S⟩
theorem c_or (x y : Int) (a : Option Addr) (c m : Nat) (hm : m = 2) (w : World) (hl : Sl w a 1 ([x, y].map fun x => [i6 x])) : FC Tryz.prog 171 [.slice a m c] w (Val (.int .i64 (if x = 0 then y else x)) w) := by
  subst hm
  refine FC.intro Tryz.func171 rfl Tryz.ntmps171 rfl ?_
  have S := Sub.refl w
  refine RC.seq ?_
  refine RC.region rfl ?_
  refine RL.ev (.assign rfl) rfl rfl ?_
  refine RL.nil (RC.back ?_)
  refine RC.seq ?_
  refine RC.region rfl ?_
  refine RL.ev (.assign rfl) rfl rfl ?_
  refine RL.nil (RC.back ?_)
  refine RC.seq ?_
  refine RC.seq ?_
  refine RC.region rfl ?_
  refine RL.ev (.move rfl) rfl rfl ?_
  refine RL.ev (.len sl24 rfl) rfl rfl ?_
  refine RL.ev (.move rfl) rfl rfl ?_
  refine RL.nil (RC.back ?_)
  refine RC.block ?_
  refine RC.loop (α := Nat) (fun i => [(3, .int .i64 0), (6, .slice a 2 c), (7, .int .i64 2), (8, .int .i64 (i : Int))]) (fun i w1 => (i ≤ 2 ∧ (1 ≤ i → x = 0) ∧ (2 ≤ i → y = 0)) ∧ Sub w w1) (fun i => 2 - i) 0 (keep_of (by repeat (first | exact trivial | refine And.intro rfl ?_))) (⟨⟨by omega, fun (h : 1 ≤ 0) => absurd h (by decide), fun (h : 2 ≤ 0) => absurd h (by decide)⟩, S⟩) (fun i w1 hJ => ?_)
  obtain ⟨⟨hi, hp1, hp2⟩, S⟩ := hJ
  refine RC.seq ?_
  refine RC.region rfl ?_
  refine RL.ev (.bin rfl rfl rfl) rfl rfl ?_
  refine RL.nil (RC.back ?_)
  refine RC.seq ?_
  refine RC.cond_dec rfl (fun h2 => ?_) (fun h2 => ?_)
  ·
    obtain ⟨z, hz⟩ := getSome (l := [x, y]) (i := i) (by show i < 2; omega)
    have hzz : (i = 0 ∧ z = x) ∨ (i = 1 ∧ z = y) := (by have hi2 : i = 0 ∨ i = 1 := (by omega); rcases hi2 with rfl | rfl; exact .inl ⟨rfl, by simpa using hz.symm⟩; exact .inr ⟨rfl, by simpa using hz.symm⟩)
    refine RC.skip (RC.back ?_)
    refine RC.seq ?_
    refine RC.block ?_
    refine RC.seq ?_
    refine RC.region rfl ?_
    refine RL.ev (.indexS sl24 rfl rfl (by omega) (hl.is (i := 0) (by simp only [List.length_map, List.length_cons, List.length_nil]; omega))) rfl rfl ?_
    refine RL.ev (.load1 sh3 rfl ((hl.sub S).one (enc := i6) (i := i) hz)) rfl rfl ?_
    refine RL.ev (.assign rfl) rfl rfl ?_
    refine RL.nil (RC.back ?_)
    refine RC.seq ?_
    refine RC.region rfl ?_
    refine RL.ev (.move rfl) rfl rfl ?_
    refine RL.ev (.move rfl) rfl rfl ?_
    refine RL.ev (.bin rfl rfl rfl) rfl rfl ?_
    refine RL.nil (RC.back ?_)
    refine RC.cond_dec rfl (fun h3 => ?_) (fun h3 => ?_)
    ·
      have h14 : ¬ z = 0 := h3
      refine RC.seq ?_
      refine RC.region rfl ?_
      refine RL.ev (.move rfl) rfl rfl ?_
      refine RL.ev (.assign rfl) rfl rfl ?_
      refine RL.nil (RC.back ?_)
      refine RC.done (rs := [.tmp 2]) (vs := [_]) rfl rfl ⟨rfl, trivial⟩ ?_
      -- end 1
      rcases hzz with ⟨e, rfl⟩ | ⟨e, rfl⟩
      rw [if_neg h14]
      exact ⟨rfl, S⟩
      rw [if_pos (hp1 (by omega))]
      exact ⟨rfl, S⟩
    ·
      have h14 : z = 0 := Decidable.not_not.1 h3
      refine RC.skip (RC.back ?_)
      refine RC.region rfl ?_
      refine RL.ev (.as (.bin rfl rfl rfl) (wi64 (y := ((i + 1 : Nat) : Int)) (by omega) (by omega))) rfl rfl ?_
      refine RL.ev (.move rfl) rfl rfl ?_
      exact RL.nil (fun a ka => ⟨i + 1, ⟨⟨by omega, fun _ => by rcases hzz with ⟨e, e2⟩ | ⟨e, e2⟩; rw [← e2]; exact h14; exact hp1 (by omega), fun _ => by rcases hzz with ⟨e, e2⟩ | ⟨e, e2⟩; omega; rw [← e2]; exact h14⟩, S⟩, by omega, ka.keep (keep_of (by repeat (first | exact trivial | refine And.intro rfl ?_)))⟩)
  ·
    have hx0 := hp1 (by omega)
    have hy0 := hp2 (by omega)
    refine RC.exit rfl (RC.back ?_)
    refine RC.seq ?_
    refine RC.region rfl ?_
    refine RL.ev (.move rfl) rfl rfl ?_
    refine RL.ev (.assign rfl) rfl rfl ?_
    refine RL.nil (RC.back ?_)
    refine RC.done (rs := [.tmp 2]) (vs := [_]) rfl rfl ⟨rfl, trivial⟩ ?_
    -- end 2
    rw [if_pos hx0, hy0]
    exact ⟨rfl, S⟩
def inK (x : It) : Prop := -1073741824 ≤ x.k ∧ x.k ≤ 1073741824
def keysP (nx : It → It → Bool) (l : List It) : Prop := (∀ x ∈ l, inK x) ∧ (∀ i x y, l[i]? = some x → l[i + 1]? = some y → nx x y = true) ∧ l.length ≤ 200
def crowdL (l : List It) (key : Int) : Nat := (l.filter fun x => decide (hashOf x.k = hashOf key)).length
end Go.Proofs.YtbjmllnddanniaaGreat
set_option linter.unusedVariables false
set_option linter.unusedSimpArgs false
namespace Go.Proofs.YtbjmllnddanniaaGreat
open Go Go.XL
def hNode (g n v s a b : Int) : Node := ⟨6, g, n, v, s, a, b, 0, 0, 0, 0, 0, 0, 0, 0, 0⟩
def hBare (x : Node) : Node := hNode x.gen x.n x.v x.s x.k0 x.k1
def itN (x : Node) : It := ⟨x.n, x.v⟩
/-- a row of heaps, each next to the other one: their nodes' places, and items -/
inductive HF (A : Ar) : Int → List Int → List It → Prop
  | nil : HF A 0 [] []
  | node {r : Int} {x : Node} {P Q : List Int} {L R : List It} : getA A r = some x → hBare x = x → x.s = L.length + 1 → (∀ y ∈ L, ¬ lessP y (itN x)) → HF A x.k0 P L → HF A x.k1 Q R → HF A r (placeR r :: (P ++ Q)) (itN x :: (L ++ R))
theorem notless_trans {x y z : It} (h : ¬ lessP y x) (k : ¬ lessP z y) : ¬ lessP z x := by unfold lessP at *; omega
theorem HF.len {A : Ar} {r : Int} {P : List Int} {L : List It} (h : HF A r P L) : P.length = L.length := by
  induction h with
  | nil => rfl
  | node _ _ _ _ _ _ ih1 ih2 => simp only [List.length_cons, List.length_append, ih1, ih2]
theorem HF.rng {A : Ar} {r : Int} {P : List Int} {L : List It} (h : HF A r P L) : ∀ p ∈ P, 0 ≤ p ∧ p < A.nodes.length := by
  induction h with
  | nil => intro p hp; cases hp
  | node h1 _ _ _ _ _ ih1 ih2 =>
    intro p hp
    rcases List.mem_cons.1 hp with e | hp
    · rw [e]; exact getA_rng h1
    · exact (List.mem_append.1 hp).elim (ih1 p) (ih2 p)
theorem HF.unique {A : Ar} {r : Int} {P : List Int} {L : List It} (h : HF A r P L) : ∀ {P' : List Int} {L' : List It}, HF A r P' L' → P' = P ∧ L' = L := by
  induction h with
  | nil =>
    intro P' L' h
    cases h with
    | nil => exact ⟨rfl, rfl⟩
    | node h1 => rw [getA_0] at h1; cases h1
  | @node r x P Q L R h1 _ _ _ _ _ ih1 ih2 =>
    intro P' L' h
    cases h with
    | nil => rw [getA_0] at h1; cases h1
    | @node _ y P2 Q2 L2 R2 g1 _ _ _ g2 g3 =>
      rw [h1] at g1
      cases g1
      obtain ⟨rfl, rfl⟩ := ih1 g2
      obtain ⟨rfl, rfl⟩ := ih2 g3
      exact ⟨rfl, rfl⟩
/-- only the nodes of a row of heaps count -/
theorem HF.same {A B : Ar} {r : Int} {P : List Int} {L : List It} (h : HF A r P L) : (∀ p ∈ P, A.nodes[p.toNat]? = B.nodes[p.toNat]?) → HF B r P L := by
  induction h with
  | nil => intro _; exact .nil
  | @node r x P Q L R h1 h2 h3 h4 _ _ ih1 ih2 =>
    intro hs
    exact .node ((getA_same (hs (placeR r) (by simp))).symm.trans h1) h2 h3 h4 (ih1 fun p hp => hs p (by simp [hp])) (ih2 fun p hp => hs p (by simp [hp]))
def hmF (A : Ar) : Nat → Int → It → List Int → Int → Int → Int × List Int
  | 0, _, _, out, _, _ => (-1, out)
  | k + 1, r, b, out, sum, left => if r = 0 then (sum, out) else match getA A r with
    | none => (-1, out)
    | some x => if left ≤ sum ∨ ¬ x.kind = 6 ∨ placeR r ∈ out ∨ lessP (itN x) b then (-1, out) else
      if (hmF A k x.k0 (itN x) (out ++ [placeR r]) 0 (left - sum - 1)).1 < 0 ∨ ¬ hBare x = x ∨ ¬ (hmF A k x.k0 (itN x) (out ++ [placeR r]) 0 (left - sum - 1)).1 + 1 = x.s then (-1, (hmF A k x.k0 (itN x) (out ++ [placeR r]) 0 (left - sum - 1)).2) else
      hmF A k x.k1 b (hmF A k x.k0 (itN x) (out ++ [placeR r]) 0 (left - sum - 1)).2 (sum + (hmF A k x.k0 (itN x) (out ++ [placeR r]) 0 (left - sum - 1)).1 + 1) left
section
variable {A : Ar} {k : Nat} {r sum left m : Int} {b : It} {x : Node} {out o : List Int}
theorem hmF_0 : hmF A (k + 1) 0 b out sum left = (sum, out) := by rw [hmF]; exact if_pos rfl
theorem hmF_none (hr : ¬ r = 0) (h : getA A r = none) : hmF A (k + 1) r b out sum left = (-1, out) := by rw [hmF, if_neg hr, h]
theorem hmF_bad (hr : ¬ r = 0) (h : getA A r = some x) (hb : left ≤ sum ∨ ¬ x.kind = 6 ∨ placeR r ∈ out ∨ lessP (itN x) b) : hmF A (k + 1) r b out sum left = (-1, out) := by rw [hmF, if_neg hr, h]; exact if_pos hb
theorem hmF_kid (hr : ¬ r = 0) (h : getA A r = some x) (hb : ¬ (left ≤ sum ∨ ¬ x.kind = 6 ∨ placeR r ∈ out ∨ lessP (itN x) b)) (e : hmF A k x.k0 (itN x) (out ++ [placeR r]) 0 (left - sum - 1) = (m, o)) (hp : m < 0 ∨ ¬ hBare x = x ∨ ¬ m + 1 = x.s) : hmF A (k + 1) r b out sum left = (-1, o) := by
  rw [hmF, if_neg hr, h]; simp only []; rw [if_neg hb, e]; exact if_pos hp
theorem hmF_next (hr : ¬ r = 0) (h : getA A r = some x) (hb : ¬ (left ≤ sum ∨ ¬ x.kind = 6 ∨ placeR r ∈ out ∨ lessP (itN x) b)) (e : hmF A k x.k0 (itN x) (out ++ [placeR r]) 0 (left - sum - 1) = (m, o)) (hp : ¬ (m < 0 ∨ ¬ hBare x = x ∨ ¬ m + 1 = x.s)) : hmF A (k + 1) r b out sum left = hmF A k x.k1 b o (sum + m + 1) left := by
  rw [hmF, if_neg hr, h]; simp only []; rw [if_neg hb, e]; exact if_neg hp
end
/-- what is told is within what is left; what was seen is places, each once -/
theorem hmF_le (A : Ar) : ∀ (k : Nat) (r : Int) (b : It) (out : List Int) (sum left : Int), 0 ≤ sum → sum ≤ left → Pl A out → -1 ≤ (hmF A k r b out sum left).1 ∧ (hmF A k r b out sum left).1 ≤ left ∧ Pl A (hmF A k r b out sum left).2
  | 0, r, b, out, sum, left, h0, h1, hp => ⟨by rw [hmF]; exact Int.le_refl _, by rw [hmF]; show (-1 : Int) ≤ left; omega, by rw [hmF]; exact hp⟩
  | k + 1, r, b, out, sum, left, h0, h1, hp => by
    by_cases hr : r = 0
    · rw [hr, hmF_0]; exact ⟨by show -1 ≤ sum; omega, h1, hp⟩
    cases hg : getA A r with
    | none => rw [hmF_none hr hg]; exact ⟨Int.le_refl _, by show (-1 : Int) ≤ left; omega, hp⟩
    | some x =>
      by_cases hb : left ≤ sum ∨ ¬ x.kind = 6 ∨ placeR r ∈ out ∨ lessP (itN x) b
      · rw [hmF_bad hr hg hb]; exact ⟨Int.le_refl _, by show (-1 : Int) ≤ left; omega, hp⟩
      have hls : ¬ left ≤ sum := fun e => hb (.inl e)
      have hni : placeR r ∉ out := fun e => hb (.inr (.inr (.inl e)))
      have hp2 : Pl A (out ++ [placeR r]) := hp.add (getA_rng hg) hni
      have i1 := hmF_le A k x.k0 (itN x) (out ++ [placeR r]) 0 (left - sum - 1) (Int.le_refl _) (by omega) hp2
      obtain ⟨⟨m, o⟩, e⟩ : ∃ p, p = hmF A k x.k0 (itN x) (out ++ [placeR r]) 0 (left - sum - 1) := ⟨_, rfl⟩
      rw [← e] at i1
      simp only [] at i1
      by_cases hq : m < 0 ∨ ¬ hBare x = x ∨ ¬ m + 1 = x.s
      · rw [hmF_kid hr hg hb e.symm hq]; exact ⟨Int.le_refl _, by show (-1 : Int) ≤ left; omega, i1.2.2⟩
      · rw [hmF_next hr hg hb e.symm hq]
        have hm0 : ¬ m < 0 := fun h => hq (.inl h)
        exact hmF_le A k x.k1 b o (sum + m + 1) left (by omega) (by omega) i1.2.2
theorem hmF_sound (A : Ar) : ∀ (k : Nat) (r : Int) (b : It) (out : List Int) (sum left m : Int) (o : List Int), 0 ≤ sum → sum ≤ left → Pl A out → hmF A k r b out sum left = (m, o) → 0 ≤ m → ∃ P L, HF A r P L ∧ m = sum + L.length ∧ o = out ++ P ∧ (∀ y ∈ L, ¬ lessP y b)
  | 0, r, b, out, sum, left, m, o, _, _, _, h, hm => by rw [hmF] at h; cases h; omega
  | k + 1, r, b, out, sum, left, m, o, h0, h1, hp, h, hm => by
    by_cases hr : r = 0
    · rw [hr, hmF_0] at h; cases h; exact ⟨[], [], hr ▸ .nil, by simp, by simp, fun y hy => by cases hy⟩
    cases hg : getA A r with
    | none => rw [hmF_none hr hg] at h; cases h; omega
    | some x =>
      by_cases hb : left ≤ sum ∨ ¬ x.kind = 6 ∨ placeR r ∈ out ∨ lessP (itN x) b
      · rw [hmF_bad hr hg hb] at h; cases h; omega
      have hls : ¬ left ≤ sum := fun e => hb (.inl e)
      have hni : placeR r ∉ out := fun e => hb (.inr (.inr (.inl e)))
      have hlx : ¬ lessP (itN x) b := fun e => hb (.inr (.inr (.inr e)))
      have hp2 : Pl A (out ++ [placeR r]) := hp.add (getA_rng hg) hni
      have i1 := hmF_le A k x.k0 (itN x) (out ++ [placeR r]) 0 (left - sum - 1) (Int.le_refl _) (by omega) hp2
      obtain ⟨⟨m1, o1⟩, e⟩ : ∃ p, p = hmF A k x.k0 (itN x) (out ++ [placeR r]) 0 (left - sum - 1) := ⟨_, rfl⟩
      rw [← e] at i1
      simp only [] at i1
      by_cases hq : m1 < 0 ∨ ¬ hBare x = x ∨ ¬ m1 + 1 = x.s
      · rw [hmF_kid hr hg hb e.symm hq] at h; cases h; omega
      rw [hmF_next hr hg hb e.symm hq] at h
      have hm0 : ¬ m1 < 0 := fun h => hq (.inl h)
      have hbare : hBare x = x := Decidable.not_not.1 fun h => hq (.inr (.inl h))
      have hs : m1 + 1 = x.s := Decidable.not_not.1 fun h => hq (.inr (.inr h))
      obtain ⟨P, L, hL, e1, e2, e3⟩ := hmF_sound A k x.k0 (itN x) (out ++ [placeR r]) 0 (left - sum - 1) m1 o1 (Int.le_refl _) (by omega) hp2 e.symm (by omega)
      obtain ⟨Q, R, hR, e4, e5, e6⟩ := hmF_sound A k x.k1 b o1 (sum + m1 + 1) left m o (by omega) (by omega) i1.2.2 h hm
      refine ⟨_, _, .node hg hbare (by omega) e3 hL hR, by simp only [List.length_cons, List.length_append]; omega, by rw [e5, e2]; simp, fun y hy => ?_⟩
      rcases List.mem_cons.1 hy with rfl | hy
      · exact hlx
      · exact (List.mem_append.1 hy).elim (fun h => notless_trans hlx (e3 y h)) (e6 y)
theorem hmF_complete {A : Ar} {r : Int} {P : List Int} {L : List It} (h : HF A r P L) : ∀ (k : Nat) (b : It) (out : List Int) (sum left : Int), 0 ≤ sum → sum + L.length ≤ left → left - sum < k → (out ++ P).Nodup → (∀ y ∈ L, ¬ lessP y b) → hmF A k r b out sum left = (sum + L.length, out ++ P) := by
  induction h with
  | nil =>
    intro k b out sum left h0 h1 h2 _ _
    cases k with
    | zero => simp at h1; omega
    | succ k => rw [hmF_0]; simp
  | @node r x P Q L R g1 g2 g3 g4 _ _ ih1 ih2 =>
    intro k b out sum left h0 h1 h2 hn hb
    simp only [List.length_cons, List.length_append] at h1
    cases k with
    | zero => omega
    | succ k =>
      have hr : ¬ r = 0 := fun e => by rw [e, getA_0] at g1; cases g1
      have hk : x.kind = 6 := by rw [← g2]; rfl
      have hni : placeR r ∉ out := fun e => by
        rw [List.nodup_append] at hn
        exact hn.2.2 _ e _ (by simp) rfl
      have hn1 : (out ++ [placeR r] ++ P ++ Q).Nodup := by simpa using hn
      have hok : ¬ (left ≤ sum ∨ ¬ x.kind = 6 ∨ placeR r ∈ out ∨ lessP (itN x) b) := by
        rintro (e | e | e | e)
        · omega
        · exact e hk
        · exact hni e
        · exact hb (itN x) (by simp) e
      have e1 := ih1 k (itN x) (out ++ [placeR r]) 0 (left - sum - 1) (Int.le_refl _) (by omega) (by omega) (List.nodup_append.1 hn1).1 g4
      rw [hmF_next hr g1 hok e1 (by rintro (e | e | e); omega; exact e g2; omega)]
      rw [ih2 k b (out ++ [placeR r] ++ P) (sum + (0 + (L.length : Int)) + 1) left (by omega) (by omega) (by omega) hn1 (fun y hy => hb y (by simp [hy]))]
      simp only [List.length_cons, List.length_append, List.append_assoc, List.cons_append, List.nil_append]
      exact Prod.ext (by show _ = sum + (((L.length + R.length + 1 : Nat)) : Int); omega) rfl
def topIt (A : Ar) (r : Int) : It := match getA A r with | some x => itN x | none => ⟨0, 0⟩
def topK1 (A : Ar) (r : Int) : Int := match getA A r with | some x => x.k1 | none => 0
/-- a heap, its nodes' places, its items -/
structure IsP (A : Ar) (r : Int) (P : List Int) (L : List It) : Prop where
  hf : HF A r P L
  nd : P.Nodup
  len : L.length ≤ 200
  one : topK1 A r = 0
def hpOk (A : Ar) (r : Int) : Bool := !(decide ((hmF A 201 r (topIt A r) [] 0 200).1 < 0) || decide (¬ topK1 A r = 0))
theorem HF.top {A : Ar} {r : Int} {P : List Int} {L : List It} (h : HF A r P L) (h1 : topK1 A r = 0) : ∀ y ∈ L, ¬ lessP y (topIt A r) := by
  cases h with
  | nil => intro y hy; cases hy
  | @node _ x P Q L R g1 g2 g3 g4 hl hr =>
    have e1 : topIt A r = itN x := by unfold topIt; rw [g1]
    have e2 : x.k1 = 0 := by unfold topK1 at h1; rw [g1] at h1; exact h1
    rw [e1]
    rw [e2] at hr
    obtain ⟨rfl, rfl⟩ := HF.unique .nil hr
    intro y hy
    rcases List.mem_cons.1 hy with rfl | hy
    · unfold lessP; omega
    · exact g4 y (by simpa using hy)
theorem hpOk_iff (A : Ar) (r : Int) : hpOk A r = true ↔ ∃ P L, IsP A r P L := by
  unfold hpOk
  constructor
  · intro h
    obtain ⟨⟨m, o⟩, e⟩ : ∃ p, p = hmF A 201 r (topIt A r) [] 0 200 := ⟨_, rfl⟩
    have h5 := hmF_le A 201 r (topIt A r) [] 0 200 (Int.le_refl _) (by omega) (Pl.nil A)
    rw [← e] at h h5
    simp only [Bool.not_eq_true', Bool.or_eq_false_iff, decide_eq_false_iff_not, Decidable.not_not] at h h5
    obtain ⟨P, L, h1, h2, h3, h4⟩ := hmF_sound A 201 r (topIt A r) [] 0 200 m o (Int.le_refl _) (by omega) (Pl.nil A) e.symm (by omega)
    refine ⟨P, L, h1, ?_, by omega, h.2⟩
    have := h5.2.2.nd
    rw [h3] at this
    simpa using this
  · rintro ⟨P, L, h⟩
    rw [hmF_complete h.hf 201 (topIt A r) [] 0 200 (Int.le_refl _) (by have := h.len; omega) (by omega) (by simpa using h.nd) (h.hf.top h.one)]
    simp only [Bool.not_eq_true', Bool.or_eq_false_iff, decide_eq_false_iff_not, Decidable.not_not]
    exact ⟨by show ¬ (0 : Int) + L.length < 0; omega, h.one⟩
theorem IsP.unique {A : Ar} {r : Int} {P P' : List Int} {L L' : List It} (h : IsP A r P L) (k : IsP A r P' L') : P' = P ∧ L' = L := h.hf.unique k.hf
theorem IsP.zero (A : Ar) : IsP A 0 [] [] := ⟨.nil, List.nodup_nil, by simp, by unfold topK1; rw [getA_0]⟩
end Go.Proofs.YtbjmllnddanniaaGreat
set_option linter.unusedVariables false
set_option linter.unusedSimpArgs false
namespace Go.Proofs.YtbjmllnddanniaaGreat
open Go Go.XL
theorem _root_.Go.XL.Has.eqc {w : World} {b : Nat} {xs ys : List Value} {e : TypeId} (h : Has w b xs e) (hx : xs = ys) : Has w b ys e := hx ▸ h
structure Rt where
  m : Int
  t : Int
  r : Int
  h : Int
  deriving DecidableEq
def Rt.cells (R : Rt) : List Value := [.int .u64 R.m, .int .u64 R.t, .int .u64 R.r, .int .u64 R.h]
def Rt.val (R : Rt) : Value := .agg R.cells.toArray
def Rt.ok (R : Rt) : Prop := U64 R.m ∧ U64 R.t ∧ U64 R.r ∧ U64 R.h
def rt0 : Rt := ⟨0, 0, 0, 0⟩
theorem rt0_ok : rt0.ok := by unfold Rt.ok U64 rt0; decide
/-- a version, as it lies -/
structure RcP where
  no : Int
  rt : Rt
  aa : Option Addr
  an : Nat
  ac : Nat
  ra : Option Addr
  rn : Nat
  rc : Nat
def RcP.cells (r : RcP) : List Value := [.int .i64 r.no, .int .u64 r.rt.m, .int .u64 r.rt.t, .int .u64 r.rt.r, .int .u64 r.rt.h, .slice r.aa r.an r.ac, .slice r.ra r.rn r.rc]
def RcP.val (r : RcP) : Value := .agg r.cells.toArray
/-- a table of versions, as it lies -/
structure TbP where
  ra : Option Addr
  rn : Nat
  rc : Nat
  pa : Option Addr
  pn : Nat
  pc : Nat
  sa : Option Addr
  sn : Nat
  sc : Nat
def TbP.cells (t : TbP) : List Value := [.slice t.ra t.rn t.rc, .slice t.pa t.pn t.pc, .slice t.sa t.sn t.sc]
def tbp0 : TbP := ⟨none, 0, 0, none, 0, 0, none, 0, 0⟩
/-- a world, as it lies -/
structure WdP where
  na : Option Addr
  nn : Nat
  nc : Nat
  fa : Option Addr
  fn : Nat
  fc : Nat
  tb : TbP
  aa : Option Addr
  an : Nat
  ac : Nat
  wa : Option Addr
  wn : Nat
  wc : Nat
def WdP.cells (x : WdP) : List Value := [.slice x.na x.nn x.nc, .slice x.fa x.fn x.fc, .slice x.tb.ra x.tb.rn x.tb.rc, .slice x.tb.pa x.tb.pn x.tb.pc, .slice x.tb.sa x.tb.sn x.tb.sc, .slice x.aa x.an x.ac, .slice x.wa x.wn x.wc]
def wdp0 : WdP := ⟨none, 0, 0, none, 0, 0, tbp0, none, 0, 0, none, 0, 0⟩
/-- a store, as it lies -/
structure StP where
  wd : WdP
  time : Int
  ia : Option Addr
  inn : Nat
  ic : Nat
  la : Option Addr
  ln : Nat
  lc : Nat
  ca : Option Addr
  cn : Nat
  cc : Nat
def StP.cells (x : StP) : List Value := [.slice x.wd.na x.wd.nn x.wd.nc, .slice x.wd.fa x.wd.fn x.wd.fc, .slice x.wd.tb.ra x.wd.tb.rn x.wd.tb.rc, .slice x.wd.tb.pa x.wd.tb.pn x.wd.tb.pc, .slice x.wd.tb.sa x.wd.tb.sn x.wd.tb.sc, .slice x.wd.aa x.wd.an x.wd.ac, .slice x.wd.wa x.wd.wn x.wd.wc,
  .int .i64 x.time, .slice x.ia x.inn x.ic, .slice x.la x.ln x.lc, .slice x.ca x.cn x.cc]
def stp0 : StP := ⟨wdp0, 0, none, 0, 0, none, 0, 0, none, 0, 0⟩
def i0 : Value := .int .i64 0
/-- a worker that never worked -/
def wk0 : List Value := [i0, i0, i0, i0, i0, i0, i0, i0, i0, .int .u64 0, .int .u64 0, .int .u64 0, .int .u64 0, .slice none 0 0, .slice none 0 0, .slice none 0 0, i0, .int .u64 0, .int .u64 0, .int .u64 0, .int .u64 0, .slice none 0 0, .slice none 0 0, .slice none 0 0]
end Go.Proofs.YtbjmllnddanniaaGreat
set_option linter.unusedVariables false
set_option linter.unusedSimpArgs false
namespace Go.Proofs.YtbjmllnddanniaaGreat
open Go Go.XL
/-- a key's digit at a level -/
def dig (key : Int) (lv : Nat) : Nat := hashOf key / 4 ^ lv % 4
theorem dig_lt (key : Int) (lv : Nat) : dig key lv < 4 := Nat.mod_lt _ (by decide)
def hN (kind g n v s : Int) (ks : List Int) : Node := ⟨kind, g, n, v, s, ks.getD 0 0, ks.getD 1 0, ks.getD 2 0, ks.getD 3 0, ks.getD 4 0, ks.getD 5 0, ks.getD 6 0, ks.getD 7 0, ks.getD 8 0, 0, 0⟩
/-- those of a digit at a level -/
def ofL (lv i : Nat) (l : List It) : List It := l.filter fun x => decide (dig x.k lv = i)
theorem ofL_mem {lv i : Nat} {l : List It} {x : It} : x ∈ ofL lv i l ↔ x ∈ l ∧ dig x.k lv = i := by unfold ofL; rw [List.mem_filter, decide_eq_true_iff]
/-- keys that are unlike -/
def Ap (l : List It) : Prop := l.Pairwise fun x y => ¬ x.k = y.k
theorem Ap.perm {l m : List It} (h : Ap l) (p : l.Perm m) : Ap m := (List.Perm.pairwise_iff (fun h e => h e.symm) p).1 h
theorem Ap.filter {l : List It} (h : Ap l) (p : It → Bool) : Ap (l.filter p) := List.Pairwise.filter p h
theorem Srt.ap {l : List It} (h : Srt l) : Ap l := List.Pairwise.imp (fun h e => by omega) h
theorem Ap.key {l : List It} (h : Ap l) {x y : It} (hx : x ∈ l) (hy : y ∈ l) (e : x.k = y.k) : x = y := by
  induction l with
  | nil => cases hx
  | cons z l ih =>
    obtain ⟨h1, h2⟩ := List.pairwise_cons.1 h
    rcases List.mem_cons.1 hx with e1 | e1 <;> rcases List.mem_cons.1 hy with e2 | e2
    · rw [e1, e2]
    · exact absurd (e1 ▸ e) (h1 y e2)
    · exact absurd (e2 ▸ e.symm) (h1 x e1)
    · exact ih h2 e1 e2
/-- the leaf of an item -/
def lfA (A : Ar) (r : Int) (x : It) : Prop := ∃ g, getA A r = some (hN 3 g x.k x.v 0 [])
/-- the node of keys of one hash -/
def Clash (A : Ar) (r : Int) (l : List It) : Prop := ∃ g ks m, List.Perm m l ∧ Srt m ∧ m.length ≤ 9 ∧ ks.length = m.length ∧ getA A r = some (hN 4 g 0 0 m.length ks) ∧ ∀ i x, m[i]? = some x → lfA A (ks.getD i 0) x
/-- a reference is the table of keys, so many levels above the last -/
def IsH (A : Ar) : Nat → Int → List It → Prop
  | 0, r, l => (l = [] ∧ r = 0) ∨ (∃ x, l = [x] ∧ lfA A r x) ∨ (2 ≤ l.length ∧ Clash A r l)
  | k + 1, r, l => (l = [] ∧ r = 0) ∨ (∃ x, l = [x] ∧ lfA A r x) ∨ (2 ≤ l.length ∧ ∃ g ks, ks.length = 4 ∧ getA A r = some (hN 2 g 0 0 l.length ks) ∧ ∀ i, i < 4 → IsH A k (ks.getD i 0) (ofL (9 - k) i l))
theorem isH_nil {A : Ar} {k : Nat} {r : Int} : IsH A k r [] ↔ r = 0 := by
  cases k with
  | zero =>
    constructor
    · rintro (⟨_, h⟩ | ⟨x, h, _⟩ | ⟨h, _⟩)
      · exact h
      · cases h
      · simp at h
    · exact fun h => .inl ⟨rfl, h⟩
  | succ k =>
    constructor
    · rintro (⟨_, h⟩ | ⟨x, h, _⟩ | ⟨h, _⟩)
      · exact h
      · cases h
      · simp at h
    · exact fun h => .inl ⟨rfl, h⟩
theorem isH_one {A : Ar} {k : Nat} {r : Int} {x : It} : IsH A k r [x] ↔ lfA A r x := by
  cases k with
  | zero =>
    constructor
    · rintro (⟨h, _⟩ | ⟨y, h, h2⟩ | ⟨h, _⟩)
      · cases h
      · cases h; exact h2
      · simp at h
    · exact fun h => .inr (.inl ⟨x, rfl, h⟩)
  | succ k =>
    constructor
    · rintro (⟨h, _⟩ | ⟨y, h, h2⟩ | ⟨h, _⟩)
      · cases h
      · cases h; exact h2
      · simp at h
    · exact fun h => .inr (.inl ⟨x, rfl, h⟩)
theorem isH_trie {A : Ar} {k : Nat} {r : Int} {l : List It} (hl : 2 ≤ l.length) : IsH A (k + 1) r l ↔ ∃ g ks, ks.length = 4 ∧ getA A r = some (hN 2 g 0 0 l.length ks) ∧ ∀ i, i < 4 → IsH A k (ks.getD i 0) (ofL (9 - k) i l) := by
  constructor
  · rintro (⟨h, _⟩ | ⟨y, h, h2⟩ | ⟨h, h2⟩)
    · rw [h] at hl; simp at hl
    · rw [h] at hl; simp at hl
    · exact h2
  · exact fun h => .inr (.inr ⟨hl, h⟩)
theorem isH_clash {A : Ar} {r : Int} {l : List It} (hl : 2 ≤ l.length) : IsH A 0 r l ↔ Clash A r l := by
  constructor
  · rintro (⟨h, _⟩ | ⟨y, h, h2⟩ | ⟨h, h2⟩)
    · rw [h] at hl; simp at hl
    · rw [h] at hl; simp at hl
    · exact h2
  · exact fun h => .inr (.inr ⟨hl, h⟩)
theorem row_cases (l : List It) : l = [] ∨ (∃ x, l = [x]) ∨ 2 ≤ l.length := by
  rcases l with _ | ⟨x, _ | ⟨y, l⟩⟩
  · exact .inl rfl
  · exact .inr (.inl ⟨x, rfl⟩)
  · exact .inr (.inr (by simp))
theorem Clash.perm {A : Ar} {r : Int} {l m : List It} (h : Clash A r l) (p : l.Perm m) : Clash A r m := by
  obtain ⟨g, ks, q, h1, h2⟩ := h
  exact ⟨g, ks, q, h1.trans p, h2⟩
theorem IsH.perm {A : Ar} : ∀ {k : Nat} {r : Int} {l m : List It}, IsH A k r l → l.Perm m → IsH A k r m
  | k, r, l, m, h, p => by
    rcases row_cases l with rfl | ⟨x, rfl⟩ | hl
    · rw [List.Perm.nil_eq p.symm.symm] at h; exact h
    · rw [← List.Perm.singleton_eq p]; exact h
    · have hm : 2 ≤ m.length := by rw [← p.length_eq]; exact hl
      cases k with
      | zero => exact (isH_clash hm).2 (((isH_clash hl).1 h).perm p)
      | succ k =>
        obtain ⟨g, ks, h1, h2, h3⟩ := (isH_trie hl).1 h
        exact (isH_trie hm).2 ⟨g, ks, h1, by rw [← p.length_eq]; exact h2, fun i hi => IsH.perm (h3 i hi) (p.filter _)⟩
theorem lfA.ext {A B : Ar} {r : Int} {x : It} (h : lfA A r x) (e : Ext A B) : lfA B r x := by
  obtain ⟨g, h⟩ := h; exact ⟨g, e.get h⟩
theorem IsH.ext {A B : Ar} (e : Ext A B) : ∀ {k : Nat} {r : Int} {l : List It}, IsH A k r l → IsH B k r l
  | k, r, l, h => by
    rcases row_cases l with rfl | ⟨x, rfl⟩ | hl
    · exact isH_nil.2 (isH_nil.1 h)
    · exact isH_one.2 ((isH_one.1 h).ext e)
    · cases k with
      | zero =>
        obtain ⟨g, ks, q, h1, h2, h3, h4, h5, h6⟩ := (isH_clash hl).1 h
        exact (isH_clash hl).2 ⟨g, ks, q, h1, h2, h3, h4, e.get h5, fun i x hx => (h6 i x hx).ext e⟩
      | succ k =>
        obtain ⟨g, ks, h1, h2, h3⟩ := (isH_trie hl).1 h
        exact (isH_trie hl).2 ⟨g, ks, h1, e.get h2, fun i hi => IsH.ext e (h3 i hi)⟩
theorem getA_right {A : Ar} {r : Int} {x : Node} (h : getA A r = some x) : rightR r = true := by
  have h2 := (getA_rng h).1
  refine Classical.byContradiction fun e => ?_
  rw [placeR_not (fun hn : nodeR r => e hn.2)] at h2
  omega
theorem getA_z (A : Ar) : getA A 0 = none := getA_neg (.inl (by decide))
theorem getA_nz {A : Ar} {r : Int} {x : Node} (h : getA A r = some x) : ¬ r = 0 := fun e => by rw [e, getA_z] at h; cases h
/-- what a node tells of its keys -/
def szH (A : Ar) (r : Int) : Int := if (getN A r).kind = 3 then 1 else (getN A r).s
theorem szH_z (A : Ar) : szH A 0 = 0 := by unfold szH getN; rw [getA_z]; rfl
theorem lfA.right {A : Ar} {r : Int} {x : It} (h : lfA A r x) : rightR r = true := by obtain ⟨g, h⟩ := h; exact getA_right h
theorem lfA.nz {A : Ar} {r : Int} {x : It} (h : lfA A r x) : ¬ r = 0 := by obtain ⟨g, h⟩ := h; exact getA_nz h
theorem lfA.getN {A : Ar} {r : Int} {x : It} (h : lfA A r x) : ∃ g, getN A r = hN 3 g x.k x.v 0 [] := by obtain ⟨g, h⟩ := h; exact ⟨g, getN_yes h⟩
theorem lfA.size {A : Ar} {r : Int} {x : It} (h : lfA A r x) : szH A r = 1 := by obtain ⟨g, h⟩ := h.getN; unfold szH; rw [h]; rfl
theorem IsH.node {A : Ar} {k : Nat} {r : Int} {l : List It} (hl : 2 ≤ l.length) (h : IsH A k r l) : ∃ kd g ks, (kd = 2 ∧ k ≠ 0 ∨ kd = 4 ∧ k = 0) ∧ getA A r = some (hN kd g 0 0 l.length ks) := by
  cases k with
  | zero =>
    obtain ⟨g, ks, q, h1, h2, h3, h4, h5, h6⟩ := (isH_clash hl).1 h
    exact ⟨4, g, ks, .inr ⟨rfl, rfl⟩, by rw [← h1.length_eq]; exact h5⟩
  | succ k =>
    obtain ⟨g, ks, h1, h2, h3⟩ := (isH_trie hl).1 h
    exact ⟨2, g, ks, .inl ⟨rfl, by omega⟩, h2⟩
theorem IsH.right {A : Ar} {k : Nat} {r : Int} {l : List It} (h : IsH A k r l) : rightR r = true := by
  rcases row_cases l with rfl | ⟨x, rfl⟩ | hl
  · rw [isH_nil.1 h]; exact (rightR_iff 0).2 (.inl rfl)
  · exact (isH_one.1 h).right
  · obtain ⟨_, _, _, _, h⟩ := h.node hl; exact getA_right h
theorem IsH.size {A : Ar} {k : Nat} {r : Int} {l : List It} (h : IsH A k r l) : szH A r = l.length := by
  rcases row_cases l with rfl | ⟨x, rfl⟩ | hl
  · rw [isH_nil.1 h]; exact szH_z A
  · exact (isH_one.1 h).size
  · obtain ⟨kd, g, ks, hk, h⟩ := h.node hl
    unfold szH
    rw [getN_yes h]
    rcases hk with ⟨rfl, _⟩ | ⟨rfl, _⟩ <;> rfl
theorem IsH.zero {A : Ar} {k : Nat} {r : Int} {l : List It} (h : IsH A k r l) : r = 0 ↔ l = [] := by
  constructor
  · intro e
    have h2 := h.size
    rw [e, szH_z] at h2
    exact List.eq_nil_of_length_eq_zero (by omega)
  · rintro rfl; exact isH_nil.1 h
theorem part_perm (lv : Nat) : ∀ l : List It, (ofL lv 0 l ++ (ofL lv 1 l ++ (ofL lv 2 l ++ ofL lv 3 l))).Perm l
  | [] => List.Perm.refl _
  | x :: l => by
    have ih := part_perm lv l
    have hd := dig_lt x.k lv
    have e : ∀ i, ofL lv i (x :: l) = if dig x.k lv = i then x :: ofL lv i l else ofL lv i l := fun i => by
      unfold ofL; rw [List.filter_cons]; by_cases q : dig x.k lv = i
      · rw [if_pos (by simpa using q), if_pos q]
      · rw [if_neg (by simpa using q), if_neg q]
    rcases (show dig x.k lv = 0 ∨ dig x.k lv = 1 ∨ dig x.k lv = 2 ∨ dig x.k lv = 3 by omega) with q | q | q | q <;> rw [e, e, e, e, q] <;> simp only [if_true, Nat.zero_ne_one, if_false, show (0 : Nat) ≠ 2 by decide, show (0 : Nat) ≠ 3 by decide, show (1 : Nat) ≠ 0 by decide, show (1 : Nat) ≠ 2 by decide, show (1 : Nat) ≠ 3 by decide, show (2 : Nat) ≠ 0 by decide, show (2 : Nat) ≠ 1 by decide, show (2 : Nat) ≠ 3 by decide, show (3 : Nat) ≠ 0 by decide, show (3 : Nat) ≠ 1 by decide, show (3 : Nat) ≠ 2 by decide]
    · exact List.Perm.cons x ih
    · exact (List.perm_middle).trans (List.Perm.cons x ih)
    · rw [← List.append_assoc]
      refine (List.perm_middle).trans (List.Perm.cons x ?_)
      rw [List.append_assoc]; exact ih
    · rw [← List.append_assoc, ← List.append_assoc]
      refine (List.perm_middle).trans (List.Perm.cons x ?_)
      rw [List.append_assoc, List.append_assoc]; exact ih
theorem part_len (lv : Nat) (l : List It) : (ofL lv 0 l).length + (ofL lv 1 l).length + (ofL lv 2 l).length + (ofL lv 3 l).length = l.length := by
  have := (part_perm lv l).length_eq
  simp only [List.length_append] at this
  omega
/-- the hashes' low digits are alike -/
def Fam (lv d : Nat) (l : List It) : Prop := ∀ x ∈ l, hashOf x.k % 4 ^ lv = d
theorem fam_0 (l : List It) : Fam 0 0 l := fun x _ => by rw [Nat.pow_zero, Nat.mod_one]
theorem hash_succ (key : Int) (lv : Nat) : hashOf key % 4 ^ (lv + 1) = hashOf key % 4 ^ lv + 4 ^ lv * dig key lv := by
  rw [Nat.pow_succ]; exact Nat.mod_mul
theorem Fam.lt {lv d : Nat} {l : List It} (h : Fam lv d l) {x : It} (hx : x ∈ l) : d < 4 ^ lv := by rw [← h x hx]; exact Nat.mod_lt _ (Nat.pow_pos (by decide))
theorem Fam.of {lv d i : Nat} {l : List It} (h : Fam lv d l) : Fam (lv + 1) (d + 4 ^ lv * i) (ofL lv i l) := by
  intro x hx
  obtain ⟨h1, h2⟩ := ofL_mem.1 hx
  rw [hash_succ, h x h1, h2]
theorem Fam.back {lv d i : Nat} {l : List It} (hd : d < 4 ^ lv) (hi : i < 4) (h : Fam (lv + 1) (d + 4 ^ lv * i) l) : Fam lv d l ∧ ∀ x ∈ l, dig x.k lv = i := by
  have hp : 0 < 4 ^ lv := Nat.pow_pos (by decide)
  have key : ∀ x ∈ l, hashOf x.k % 4 ^ lv = d ∧ dig x.k lv = i := fun x hx => by
    have h1 := h x hx
    rw [hash_succ] at h1
    have h2 : hashOf x.k % 4 ^ lv < 4 ^ lv := Nat.mod_lt _ hp
    have e1 : (hashOf x.k % 4 ^ lv + 4 ^ lv * dig x.k lv) / 4 ^ lv = dig x.k lv := by rw [Nat.add_mul_div_left _ _ hp, Nat.div_eq_of_lt h2, Nat.zero_add]
    have e2 : (d + 4 ^ lv * i) / 4 ^ lv = i := by rw [Nat.add_mul_div_left _ _ hp, Nat.div_eq_of_lt hd, Nat.zero_add]
    rw [h1, e2] at e1
    rw [← e1] at h1
    exact ⟨by omega, e1.symm⟩
  exact ⟨fun x hx => (key x hx).1, fun x hx => (key x hx).2⟩
theorem Fam.nil (lv d : Nat) : Fam lv d [] := fun x hx => by cases hx
theorem Fam.filter {lv d : Nat} {l : List It} (h : Fam lv d l) (p : It → Bool) : Fam lv d (l.filter p) := fun x hx => h x (List.mem_filter.1 hx).1
theorem Fam.perm {lv d : Nat} {l m : List It} (h : Fam lv d l) (p : m.Perm l) : Fam lv d m := fun x hx => h x (p.mem_iff.1 hx)
end Go.Proofs.YtbjmllnddanniaaGreat
set_option linter.unusedVariables false
set_option linter.unusedSimpArgs false
namespace Go.Proofs.YtbjmllnddanniaaGreat
open Go Go.XL
theorem splice_eq (vs cs : List Value) (o : Nat) (h : o + vs.length ≤ cs.length) : splice cs o vs = cs.take o ++ vs ++ cs.drop (o + vs.length) := by
  refine List.ext_getElem? (fun k => ?_)
  rw [splice_get]
  have h1 : (cs.take o).length = o := by rw [List.length_take]; omega
  have h2 : (cs.take o ++ vs).length = o + vs.length := by rw [List.length_append, h1]
  by_cases q : k < o
  · rw [if_pos (by omega), if_neg (by omega), List.getElem?_append_left (by omega), List.getElem?_append_left (by omega), List.getElem?_take_of_lt q]
  · by_cases q2 : k < o + vs.length
    · rw [if_pos (by omega), if_pos ⟨by omega, q2⟩, List.getElem?_append_left (by omega), List.getElem?_append_right (by omega), h1]
    · rw [List.getElem?_append_right (by omega), h2, List.getElem?_drop]
      by_cases q3 : k < cs.length
      · rw [if_pos q3, if_neg (by omega), show o + vs.length + (k - (o + vs.length)) = k by omega]
      · rw [if_neg q3, List.getElem?_eq_none (by omega)]
theorem flat_take {s : Nat} {R : List (List Value)} (h : ∀ r ∈ R, r.length = s) (o : Nat) (ho : o ≤ R.length) : (R.take o).flatten = R.flatten.take (o * s) ∧ (R.drop o).flatten = R.flatten.drop (o * s) := by
  have hl : (R.take o).flatten.length = o * s := by
    rw [flat_len _ (fun r hr => h r (List.mem_of_mem_take hr)), List.length_take, Nat.min_eq_left ho]
  have e : R.flatten = (R.take o).flatten ++ (R.drop o).flatten := by rw [← List.flatten_append, List.take_append_drop]
  rw [e, ← hl]
  exact ⟨List.take_left.symm, List.drop_left.symm⟩
/-- rows put in the place of others -/
def blit (R : List (List Value)) (o : Nat) (l : List (List Value)) : List (List Value) := R.take o ++ l ++ R.drop (o + l.length)
theorem sl_at {g lo cap m c s : Nat} (h : ¬ cap = lo) : Value.slice (if cap = lo then some ⟨g, 0, none⟩ else (some ⟨g, 0, none⟩ : Option Addr).map (·.add (lo * s))) m c = .slice (some ⟨g, lo * s, none⟩) m c := by
  rw [if_neg h]; simp [Addr.add_lit]
theorem splice_blit {s : Nat} {R l : List (List Value)} {o : Nat} (hR : ∀ r ∈ R, r.length = s) (hl : ∀ r ∈ l, r.length = s) (h : o + l.length ≤ R.length) : splice R.flatten (o * s) l.flatten = (blit R o l).flatten := by
  have e1 := flat_len R hR
  have e2 := flat_len l hl
  have e3 : (o + l.length) * s ≤ R.length * s := Nat.mul_le_mul_right _ h
  rw [splice_eq _ _ _ (by rw [e1, e2, ← Nat.add_mul]; exact e3)]
  unfold blit
  rw [List.flatten_append, List.flatten_append, (flat_take hR o (by omega)).1, (flat_take hR (o + l.length) h).2, e2, ← Nat.add_mul]
theorem Sl.flatRow {w : World} {ad : Addr} {s : Nat} {l : List (List Value)} (hs' : 0 < s) (hll : ∀ r ∈ l, r.length = s) (hsl : Sl w (some ad) s l) : Row w ad l.flatten := by
  intro j u hj
  have hjl : j < l.length * s := by
    rw [← flat_len l hll]
    rcases Nat.lt_or_ge j l.flatten.length with q | q
    · exact q
    · rw [List.getElem?_eq_none q] at hj; cases hj
  have hd' : j / s < l.length := (Nat.div_lt_iff_lt_mul hs').2 hjl
  have hmod : j % s < s := Nat.mod_lt _ hs'
  have ej : j = (j / s) * s + j % s := by rw [Nat.mul_comm]; exact (Nat.div_add_mod j s).symm
  obtain ⟨r, hr⟩ : ∃ r, l[j / s]? = some r := ⟨_, List.getElem?_eq_getElem hd'⟩
  have hf := flat_get l hll (j / s) (j % s) r hr hmod
  rw [← ej, hj] at hf
  have hc := hsl.row (j / s) r hr (j % s) u hf.symm
  simp only [Option.getD_some] at hc
  rw [← hc]
  congr 1
  rw [ej]
  obtain ⟨bb, oo, sp⟩ := ad
  unfold Addr.add
  by_cases q1 : (j / s) * s = 0
  · rw [← ej]
    by_cases q2 : j % s = 0
    · rw [if_pos (by omega), if_pos q1, if_pos q2]
    · rw [if_neg (by omega), if_pos q1, if_neg q2]; simp only; congr 2; omega
  · rw [← ej]
    by_cases q2 : j % s = 0
    · rw [if_neg (by omega), if_neg q1, if_pos q2]; congr 1; omega
    · rw [if_neg (by omega), if_neg q1, if_neg q2]; simp only; congr 1; omega
theorem plain_flat {l : List (List Value)} (hp : l.all (fun r => r.all plainV) = true) : l.flatten.all plainV = true := by
  rw [List.all_eq_true]
  intro u hu
  obtain ⟨r, hr, hur⟩ := List.mem_flatten.1 hu
  exact List.all_eq_true.1 (List.all_eq_true.1 hp r hr) u hur
section
variable {P : Program} {n : Cx} {F : List (Nat × Value)} {w : World} {p : Post} {ops : Array Oper} {rest : List Oper} {d : Option Tmp} {t : TypeId} {pos : String} {af : Array Edge} {g : Option (Nat × Bool)}
theorem run_copyB {ty ty2 t : TypeId} {b o m c : Nat} {sa : Option Addr} {k c2 e s by_ e0 : Nat} {R l : List (List Value)} (ht : sliceOf P ty = some (e, s, by_)) (hs' : 0 < s) (hb : Has w b R.flatten e0) (hR : ∀ r ∈ R, r.length = s) (ho : o + min k m ≤ R.length) (hs : Sl w sa s l) (hk : k = l.length) (hl : ∀ r ∈ l, r.length = s) (hp : (l.take (min k m)).all (fun r => r.all plainV) = true) :
    ∃ w', (Builtin.copy_ #[ty, ty2] t #[.slice (some ⟨b, o * s, none⟩) m c, .slice sa k c2]).run P w = .ok (.int .i64 (min k m : Nat)) w' ∧ Has w' b (blit R o (l.take (min k m))).flatten e0 ∧ Agr (· = b) w w' ∧ w'.heap.size = w.heap.size := by
  obtain ⟨h1, i, h2, h3, h4⟩ := sliceOf_spec ht
  have hl' : ∀ r ∈ l.take (min k m), r.length = s := fun r hr => hl r (List.mem_of_mem_take hr)
  have hpl : (l.take (min k m)).flatten.all plainV = true := plain_flat hp
  have hlen : (l.take (min k m)).length = min k m := by rw [List.length_take]; omega
  have hfl : (l.take (min k m)).flatten.length = min k m * s := by rw [flat_len _ hl', hlen]
  have hcells : (Builtin.firstCells i.size (min k m) (.slice sa k c2)).run P w = .ok (l.take (min k m)).flatten.toArray w := by
    cases sa with
    | none =>
      have : l = [] := Classical.byContradiction fun e => by have := hs.some e; simp at this
      subst this
      simp [Builtin.firstCells, pure]
    | some a =>
      have hr := XL.run_loadCells (P := P) (Sl.flatRow hs' hl' (hs.take (min k m)))
      rw [hfl] at hr
      rw [h3]; exact hr
  have hfit : o * s + 0 + (l.take (min k m)).flatten.length ≤ R.flatten.length := by
    rw [hfl, flat_len R hR, Nat.add_zero, ← Nat.add_mul]; exact Nat.mul_le_mul_right _ ho
  obtain ⟨w', g1, g2, g3, g4⟩ := XL.run_storeCells (P := P) (o := o * s) (l.take (min k m)).flatten 0 R.flatten w hb hfit hpl
  refine ⟨w', ?_, ?_, g3, g4⟩
  · have hcells' : (Builtin.firstCells i.size (Nat.min k m) (.slice sa k c2)).run P w = .ok (l.take (min k m)).flatten.toArray w := hcells
    simp [Builtin.copy_, Go.run_underlying h1, sizeOf, typeInfo, h2, Builtin.lenOf, hcells', g1, goInt]
  · rw [Nat.add_zero, splice_blit hR hl' (by rw [hlen]; exact ho)] at g2
    exact g2
theorem RL.copyB {ty ty2 x y b o m c sa k c2 e s by_ e0 R l} (ht : sliceOf P ty = some (e, s, by_)) (hs' : Nat.blt 0 s = true) (hx : XL.ev F x = some (.slice (some ⟨b, o * s, none⟩) m c)) (hy : XL.ev F y = some (.slice sa k c2)) (hb : Has w b R.flatten e0) (hR : ∀ r ∈ R, r.length = s) (ho : o + min k m ≤ R.length) (hs : Sl w sa s l) (hk : k = l.length) (hl : ∀ r ∈ l, r.length = s) (hp : (l.take (min k m)).all (fun r => r.all plainV) = true)
    (hg : gsat ops F g = some true) (hd : inB d n = true)
    (h : ∀ w', w'.heap.size = w.heap.size → Has w' b (blit R o (l.take (min k m))).flatten e0 → Agr (· = b) w w' → RL P n ops rest (upd F d (.int .i64 (min k m : Nat))) w' p) : RL P n ops (⟨d, .call ⟨.builtin .copy, #[x, y], #[ty, ty2]⟩, t, pos, af, g⟩ :: rest) F w p := by
  obtain ⟨w', g1, g2, g3, g4⟩ := run_copyB (ty2 := ty2) (t := t) (m := m) (c := c) (c2 := c2) ht (by simpa using hs') hb hR ho hs hk hl hp
  refine RL.on hg hd (fun ρ hρ => ?_) (h w' g4 g2 g3)
  simp only [execOp, resolve, hρ y _ hy, hρ x _ hx, bind, Sem.bind, pure, invoke, builtin, List.map_toArray, List.map_cons, List.map_nil]
  have := run_bind (P := P) (Builtin.copy_ #[ty, ty2] t #[.slice (some ⟨b, o * s, none⟩) m c, .slice sa k c2]) (fun v => (Sem.pure (Next.value v) : Sem Next)) w
  rw [g1] at this
  exact this
theorem firstCells_sl {w : World} {sa : Option Addr} {k c2 s : Nat} {l : List (List Value)} (hs' : 0 < s) (hs : Sl w sa s l) (hl : ∀ r ∈ l, r.length = s) (m : Nat) (hm : m ≤ l.length) : (Builtin.firstCells s m (.slice sa k c2)).run P w = .ok (l.take m).flatten.toArray w := by
  have hl' : ∀ r ∈ l.take m, r.length = s := fun r hr => hl r (List.mem_of_mem_take hr)
  have hfl : (l.take m).flatten.length = m * s := by rw [flat_len _ hl', List.length_take, Nat.min_eq_left hm]
  cases sa with
  | none =>
    have : l = [] := Classical.byContradiction fun e => by have := hs.some e; simp at this
    subst this
    simp [Builtin.firstCells, pure]
  | some a =>
    have hr := XL.run_loadCells (P := P) (Sl.flatRow hs' hl' (hs.take m))
    rw [hfl] at hr
    exact hr
end
end Go.Proofs.YtbjmllnddanniaaGreat
set_option linter.unusedVariables false
set_option linter.unusedSimpArgs false
namespace Go.Proofs.YtbjmllnddanniaaGreat
open Go Go.XL
/-- a loop's record lies in the heap -/
def Lp (l : Nat) (r : Loop) (w : World) : Prop := w.heap[l]? = some (.loop r)
theorem Lp.lt {l r w} (h : Lp l r w) : l < w.heap.size := by
  unfold Lp at h
  rcases Nat.lt_or_ge l w.heap.size with q | q
  · exact q
  · rw [Array.getElem?_eq_none q] at h; cases h
theorem Lp.step {N : Nat → Prop} {l r w w'} (h : Lp l r w) (k : Agr N w w') (hn : ¬ N l) : Lp l r w' := (k.block l h.lt hn).trans h
theorem Lp.sub {l r w w'} (h : Lp l r w) (s : Sub w w') : Lp l r w' := (s.block l h.lt).trans h
theorem Lp.upd {l r w w' b} (h : Lp l r w) (a : Agr (· = b) w w') (hn : l ≠ b) : Lp l r w' := h.step a hn
theorem Lp.ne {l r w b} (h : Lp l r w) (hb : b = w.heap.size) : l ≠ b := fun e => by have := h.lt; omega
theorem Lp.put {l r r' w} (h : Lp l r w) : Lp l r' (w.putObj l (.loop r')) := World.putObj_heap_same h.lt
theorem agr_put {l : Nat} {o : Obj} {w : World} : Agr (· = l) w (w.putObj l o) := ⟨rfl, rfl, rfl, by simp, fun k _ hn => World.putObj_heap_other hn⟩

section
variable {P : Program} {n : Cx} {F : (List (Nat × Value))} {w : World} {p : Post} {ops : Array Oper} {rest : List Oper} {d : Option Tmp} {t : TypeId} {pos : String} {af : Array Edge} {g : Option (Nat × Bool)}
/-- what a call of yield comes to -/
def FY (P : Program) (l : Nat) (args : List Value) (w : World) (R : Value → World → Prop) : Prop :=
  ∃ r : Loop, Lp l r w ∧ args.length = r.params.size ∧ RoundIn Fence.wide 0 P l r.fn ((r.params.zip args.toArray).foldl (fun tmps (t, a) => tmps.setIfInBounds t a) r.tmps) r.assign r.body w (fun e w' => ∃ v, e = .returned v ∧ R v w')
theorem FY.mono {l : Nat} {args : List Value} {R R' : Value → World → Prop} (h : FY P l args w R) (hr : ∀ v w', R v w' → R' v w') : FY P l args w R' := by
  obtain ⟨r, h1, h2, h3⟩ := h
  exact ⟨r, h1, h2, h3.mono fun e w' ⟨v, e1, e2⟩ => ⟨v, e1, hr v w' e2⟩⟩
theorem RL.yield {l : Nat} {y : Operand} {xs : List Operand} {vs : List Value} {ts : Array TypeId} (hy : XL.ev F y = some (.func (.yield l) #[] #[])) (hx : evs F xs = some vs) {R : Value → World → Prop} (hc : FY P l vs w R) (hg : gsat ops F g = some true) (hd : inB d n = true)
    (h : ∀ v w', R v w' → RL P n ops rest (upd F d v) w' p) (hq : n.round = some none := by rfl) : RL P n ops (⟨d, .call ⟨.value y, xs.toArray, ts⟩, t, pos, af, g⟩ :: rest) F w p := by
  intro a k
  obtain ⟨r, h1, h2, h3⟩ := hc
  have he : (execOp a.eval ⟨d, .call ⟨.value y, xs.toArray, ts⟩, t, pos, af, g⟩).run P w = .ok (.round l r.fn ((r.params.zip vs.toArray).foldl (fun tmps (t, a) => tmps.setIfInBounds t a) r.tmps) r.assign r.body) w := by
    have hρ := k.agrees
    simp only [execOp, resolve, hρ y _ hy, Deferred.ofValue, evs_arr hρ hx, bind, Sem.bind, pure, invoke, Array.append_empty, Array.empty_append]
    exact run_yield h1 (by simpa using h2)
  rw [lwp_some hq]
  simp only [wpListIn]
  rw [wanted_of k hg, if_pos rfl]
  refine ⟨fun _ _ => trivial, ?_⟩
  rw [Oper.semAt_eq _ _ _ (not_defer he (fun _ e => by cases e)), he]
  refine ⟨fun e => (by cases e), ?_⟩
  refine RoundIn.mono h3 ?_
  rintro e w' ⟨v, rfl, hR⟩
  have := h v w' hR _ (k.upd d v hd)
  rwa [lwp_some hq] at this

/-- a function whose body holds ranges, or calls yield -/
theorem FC.introY {f : FuncId} {fn : Func} {c : Code} {args : List Value} {R : Value → World → Prop} {m : Nat} (hf : P.funcs[f]? = some fn) (hb : fn.body = some c) (hn : fn.ntmps = m) (ha : Nat.ble args.length m = true)
    (h : RC P ⟨m, some none, []⟩ c (env0 0 args) w (Post.fn P fn R)) : FC P f args w R := by
  have ha' : args.length ≤ m := by simpa using ha
  have key := h { tmps := args.toArray ++ Array.replicate (fn.ntmps - args.toArray.size) undef, defers := [] } ⟨by simp [hn]; omega, rfl, ?_⟩
  · rw [cwp_some rfl] at key
    refine callsIn_wide.1 (callsIn_of_wp (F := Fence.wide) (n := 0) hf hb trivial (wpIn_mono key ?_))
    intro e a w' hq
    cases e <;> simp only [Post.q, Post.fn, lookX] at hq <;> first | exact hq.elim | skip
    · obtain ⟨h1, v, h2, h3⟩ := hq; exact ⟨h1, v, h2, v, rfl, h3⟩
    · obtain ⟨h1, v, h2, h3⟩ := hq; exact ⟨h1, v, h2, v, rfl, h3⟩
  · intro t v ht
    obtain ⟨_, h2⟩ := look_env0 args 0 t v ht
    simp only [Nat.sub_zero] at h2
    have hlt : t < args.length := by
      rcases Nat.lt_or_ge t args.length with g | g
      · exact g
      · rw [List.getElem?_eq_none g] at h2; cases h2
    simp only []
    rw [Array.getElem?_append_left (by simpa using hlt)]
    simpa using h2
/-- the mark of a range's block -/
def markD (D : Nat) : Deferred := { target := .collected D, args := #[] }
/-- behind a range: the block is shut, and that turns it -/
def Post.fnM (P : Program) (fn : Func) (R : Value → World → Prop) : Post :=
  let r : Act → World → Prop := fun a w => (a.defers = [] ∨ ∃ D, a.defers = [markD D] ∧ w.heap[D]? = some (.deferred (some []))) ∧ ∀ w', (w' = w ∧ a.defers = [] ∨ ∃ D, a.defers = [markD D] ∧ w' = w.putObj D (.deferred none)) → ∃ v, (results fn a.tmps).run P w' = .ok v w' ∧ R v w'
  ⟨r, [], r⟩
theorem FC.introM {f : FuncId} {fn : Func} {c : Code} {args : List Value} {R : Value → World → Prop} {m : Nat} (hf : P.funcs[f]? = some fn) (hb : fn.body = some c) (hn : fn.ntmps = m) (ha : Nat.ble args.length m = true)
    (h : RC P ⟨m, some none, []⟩ c (env0 0 args) w (Post.fnM P fn R)) : FC P f args w R := by
  have ha' : args.length ≤ m := by simpa using ha
  have key := h { tmps := args.toArray ++ Array.replicate (fn.ntmps - args.toArray.size) undef, defers := [] } ⟨by simp [hn]; omega, rfl, ?_⟩
  · rw [cwp_some rfl] at key
    refine callsIn_wide.1 (callsIn_of_wp_marks (F := Fence.wide) (n := 0) hf hb trivial (wpIn_mono key ?_))
    have leave : ∀ (a : Act) (w' : World), (Post.fnM P fn R).ret a w' → LeavesInM Fence.wide 0 P fn a.tmps (fun e w' => ∃ v, e = .returned v ∧ R v w') a.defers .returning w' := by
      rintro a w' ⟨h1, h2⟩
      rcases h1 with h1 | ⟨D, h1, hD⟩
      · obtain ⟨v, h3, h4⟩ := h2 w' (.inl ⟨rfl, h1⟩)
        rw [h1]
        exact ⟨v, h3, v, rfl, h4⟩
      · obtain ⟨v, h3, h4⟩ := h2 _ (.inr ⟨D, h1, rfl⟩)
        rw [h1]
        exact ⟨fun e => (by cases e), .inl ⟨D, _, rfl, run_takeDeferred hD, v, h3, v, rfl, h4⟩⟩
    intro e a w' hq
    cases e <;> simp only [Post.q, Post.fnM, lookX] at hq <;> first | exact hq.elim | skip
    · exact leave a w' hq
    · exact leave a w' hq
  · intro t v ht
    obtain ⟨_, h2⟩ := look_env0 args 0 t v ht
    simp only [Nat.sub_zero] at h2
    have hlt : t < args.length := by
      rcases Nat.lt_or_ge t args.length with g | g
      · exact g
      · rw [List.getElem?_eq_none g] at h2; cases h2
    simp only []
    rw [Array.getElem?_append_left (by simpa using hlt)]
    simpa using h2

def endR (l : Nat) (j : Option Code) (R : Value → World → Prop) (a : Act) (w : World) : Prop := ∃ r, Lp l r w ∧ R (.bool j.isNone) (w.putObj l (.loop { r with state := if j.isNone then .ready else .done, pending := j }))
def roundP (l : Nat) (R : Value → World → Prop) (ids : List Nat) : Post := ⟨endR l none R, ids.map fun id => (id, endR l (some (.exit id)) R), endR l (some .ret) R⟩
def assignP (P : Program) (l : Nat) (r : Loop) (R : Value → World → Prop) (m : Nat) (ids : List Nat) : Post :=
  ⟨fun a1 w1 => Lp l r w1 ∧ ∀ w2, Agr (· = l) w1 w2 → w2.heap.size = w1.heap.size → Lp l { r with state := .busy } w2 → cwp ⟨m, some (some l), []⟩ P r.body (roundP l R ids).q a1 w2, [], fun _ _ => False⟩
theorem lookX_ids {l : Nat} {R : Value → World → Prop} {i : Nat} {K : Act → World → Prop} : ∀ {ids : List Nat}, lookX (ids.map fun id => (id, endR l (some (.exit id)) R)) i = some K → K = endR l (some (.exit i)) R
  | [], h => by cases h
  | j :: ids, h => by
    simp only [List.map_cons, lookX_cons] at h
    split at h
    · rename_i e; subst e; exact (Option.some.inj h).symm
    · exact lookX_ids h
theorem FY.intro {l m : Nat} {r : Loop} {args : List Value} {R : Value → World → Prop} {F : List (Nat × Value)} (ids : List Nat) (hl : Lp l r w) (hs : r.state = .ready) (hz : args.length = r.params.size)
    (hk : Knows ⟨m, some (some l), []⟩ F { tmps := (r.params.zip args.toArray).foldl (fun tmps (t, a) => tmps.setIfInBounds t a) r.tmps, defers := [] })
    (h : RC P ⟨m, some (some l), []⟩ r.assign F w (assignP P l r R m ids)) : FY P l args w R := by
  refine ⟨r, hl, hz, roundIn_of_wpIn trivial ?_⟩
  have key := h _ hk
  rw [cwp_some rfl] at key
  refine wpIn_mono key fun e a1 w1 hq => ?_
  cases e with
  | normal =>
    obtain ⟨h1, h2⟩ := hq
    refine ⟨_, run_beginRound h1 hs, ?_⟩
    have h3 := h2 _ agr_put (by simp) h1.put
    rw [cwp_some rfl] at h3
    refine wpIn_mono h3 fun e a w hq => ?_
    cases e with
    | normal =>
      obtain ⟨r', h4, h5⟩ := hq
      exact ⟨_, _, run_endRound none h4, _, rfl, h5⟩
    | ret =>
      obtain ⟨r', h4, h5⟩ := hq
      exact ⟨_, _, run_endRound (some .ret) h4, _, rfl, h5⟩
    | exit i =>
      simp only [Post.q] at hq
      split at hq
      · rename_i K hK
        rw [lookX_ids hK] at hq
        obtain ⟨r', h4, h5⟩ := hq
        exact ⟨_, _, run_endRound (some (.exit i)) h4, _, rfl, h5⟩
      · exact hq.elim
    | goto _ => exact hq.elim
    | panic _ => exact hq.elim
    | outgrown => exact hq.elim
  | exit i =>
    simp only [Post.q, assignP, lookX] at hq
  | ret => exact hq.elim
  | goto _ => exact hq.elim
  | panic _ => exact hq.elim
  | outgrown => exact hq.elim
/-- the assignment is done, the round begins -/
theorem RC.begin {l m : Nat} {r : Loop} {R : Value → World → Prop} {ids : List Nat} {F : List (Nat × Value)} (hl : Lp l r w) (h : ∀ w2, Agr (· = l) w w2 → w2.heap.size = w.heap.size → Lp l { r with state := .busy } w2 → RC P ⟨m, some (some l), []⟩ r.body F w2 (roundP l R ids)) :
    ∀ a, Knows ⟨m, some (some l), []⟩ F a → (assignP P l r R m ids).nrm a w := fun a ka => ⟨hl, fun w2 h1 h2 h3 => h w2 h1 h2 h3 a ka⟩
/-- the round ends -/
theorem RC.endr {n : Cx} {l : Nat} {r : Loop} {R : Value → World → Prop} {j : Option Code} {F : List (Nat × Value)} (hl : Lp l r w) (h : ∀ w', Agr (· = l) w w' → w'.heap.size = w.heap.size → Lp l { r with state := if j.isNone then .ready else .done, pending := j } w' → R (.bool j.isNone) w') :
    ∀ a, Knows n F a → endR l j R a w := fun a ka => ⟨r, hl, h _ agr_put (by simp) hl.put⟩

attribute [irreducible] endR
def Df (D : Nat) (w : World) : Prop := w.heap[D]? = some (.deferred (some []))
theorem RC.range {id m gf : Nat} {g : Operand} {ps : Array Tmp} {assign body : Code} {cs : List Value} {F : List (Nat × Value)} (hg : XL.ev F g = some (.func (.func gf) #[] cs.toArray)) (hf : calleeOK P gf = true)
    (h : ∀ (r : Loop) (W1 : World), r.state = .ready → r.pending = none → r.params = ps → r.assign = assign → r.body = body → Knows ⟨m, some (some (w.heap.size + 1)), []⟩ F { tmps := r.tmps, defers := [] } → Sub w W1 → W1.heap.size = w.heap.size + 2 → Lp (w.heap.size + 1) r W1 → Df w.heap.size W1 →
      FC P gf (.func (.yield (w.heap.size + 1)) #[] #[] :: cs) W1 (fun _ W2 => ∃ r2, Lp (w.heap.size + 1) r2 W2 ∧ r2.state ≠ .busy ∧ ∀ W3, Agr (· = w.heap.size + 1) W2 W3 → W3.heap.size = W2.heap.size →
        ((r2.pending = none ∨ r2.pending = some (.exit id)) ∧ (∀ a, Knows ⟨m, some none, [markD w.heap.size]⟩ F a → p.nrm a W3) ∨ r2.pending = some .ret ∧ ∀ a, Knows ⟨m, some none, [markD w.heap.size]⟩ F a → p.ret a W3))) :
    RC P ⟨m, some none, []⟩ (.block id (.rangeFunc g ps assign body)) F w p := by
  intro a k
  rw [cwp_some rfl]
  refine wpIn_block (wpIn_rangeFunc ?_)
  intro fn _
  obtain ⟨r, hr⟩ : ∃ r : Loop, r = { state := .ready, pending := none, fn, tmps := a.tmps, params := ps, assign, body, defers := w.heap.size } := ⟨_, rfl⟩
  obtain ⟨W1, hW1⟩ : ∃ W1, W1 = (w.alloc (.deferred (some []))).alloc (.loop r) := ⟨_, rfl⟩
  have hL1 : Lp (w.heap.size + 1) r W1 := by
    have := World.alloc_heap_new (w.alloc (.deferred (some []))) (.loop r)
    rw [World.size_alloc] at this
    rw [hW1]; exact this
  have hD1 : Df w.heap.size W1 := by
    rw [hW1]
    have := World.alloc_heap_new w (.deferred (some []))
    unfold Df
    rw [heap_alloc_old' _ _ (by simp)]
    exact this
  have hS1 : Sub w W1 := by
    rw [hW1]
    exact ⟨rfl, rfl, rfl, by simp; omega, fun k hk => by rw [heap_alloc_old' _ _ (by simp; omega), heap_alloc_old' _ _ hk]⟩
  have hz1 : W1.heap.size = w.heap.size + 2 := by rw [hW1]; simp
  have hga : a.eval g = .func (.func gf) #[] cs.toArray := k.agrees _ _ hg
  refine ⟨w.heap.size + 1, [markD w.heap.size], W1, { target := .fn (.func gf) cs.toArray, args := #[.func (.yield (w.heap.size + 1)) #[] #[]] }, W1, gf, #[.func (.yield (w.heap.size + 1)) #[] #[]] ++ cs.toArray, W1, ?_, ?_, fun _ _ => trivial, ?_, fun e => (by cases e), ?_⟩
  · rw [hW1, hr]; exact run_enterLoop_outer _ _ _ _ _
  · simp only [resolve, hga]
    simp [go_sem]
  · simp only [invoke]
    exact run_callFunc hf
  · have hk1 : Knows ⟨m, some (some (w.heap.size + 1)), []⟩ F { tmps := r.tmps, defers := [] } := by
      rw [hr]; exact ⟨k.size, rfl, k.slot⟩
    have hc := h r W1 (by rw [hr]) (by rw [hr]) (by rw [hr]) (by rw [hr]) (by rw [hr]) hk1 hS1 hz1 hL1 hD1
    unfold FC at hc
    rw [List.toArray_cons] at hc
    refine CallsIn.mono (callsIn_wide.2 hc) ?_
    rintro e W2 ⟨v, rfl, r2, h1, h2, h3⟩
    refine ⟨_, _, run_endLoop h1 h2, ?_⟩
    have h4 := h3 (W2.putObj (w.heap.size + 1) (.loop { r2 with state := .exhausted })) agr_put (by simp)
    generalize W2.putObj (w.heap.size + 1) (.loop { r2 with state := .exhausted }) = W3 at h4 ⊢
    have hk3 : Knows ⟨m, some none, [markD w.heap.size]⟩ F { a with defers := [markD w.heap.size] ++ a.defers } := ⟨k.size, by simp [k.defers], k.slot⟩
    rcases h4 with ⟨h4 | h4, h5⟩ | ⟨h4, h5⟩
    · rw [h4]
      exact h5 _ hk3
    · rw [h4]
      refine wpIn_exit ?_
      simp only [Exit.inBlock, if_pos]
      exact h5 _ hk3
    · rw [h4]
      exact wpIn_ret (h5 _ hk3)
theorem RC.backM {m : Nat} {mk : List Deferred} {y : Code} {q : Post} {F : List (Nat × Value)} (h : RC P ⟨m, some none, mk⟩ y F w q) : ∀ a, Knows ⟨m, some none, mk⟩ F a → (fun a w => cwp ⟨m, some none, []⟩ P y q.q a w) a w := h
/-- how the record stands: b = the loop goes on -/
def recB (r : Loop) (id : Nat) (b : Bool) : Loop := { r with state := if b then .ready else .done, pending := if b then none else some (.exit id) }
theorem recB_nb {r : Loop} {id : Nat} {b : Bool} : (recB r id b).state ≠ .busy := by cases b <;> simp [recB]
theorem recB_pe {r : Loop} {id : Nat} {b : Bool} : (recB r id b).pending = none ∨ (recB r id b).pending = some (.exit id) := by cases b <;> simp [recB]
theorem recB_0 {r : Loop} {id : Nat} (h1 : r.state = .ready) (h2 : r.pending = none) : r = recB r id true := by cases r; simp_all [recB]
theorem knows1 {n : Cx} {F : List (Nat × Value)} {tmps : Array Value} {ps : Array Tmp} {t : Nat} {v : Value} (hps : ps = #[t]) (h : Knows n F { tmps := tmps, defers := [] }) (hd : inB (some t) n = true) :
    Knows n (upd F (some t) v) { tmps := (ps.zip [v].toArray).foldl (fun tmps (t, a) => tmps.setIfInBounds t a) tmps, defers := [] } := by
  subst hps
  have := h.upd (some t) v hd
  simpa [Act.put] using this
theorem RC.doneM0 {fn : Func} {R : Value → World → Prop} {rs : List ResultVar} {vs : List Value} (hrs : fn.results = rs.toArray) (hp : p.ret = (Post.fnM P fn R).ret) (hv : resVs P F w rs vs) (hR : R (tup vs) w) (hM : n.marks = [] := by rfl) : RC P n .ret F w p :=
  RC.ret fun a k => by
    rw [hp]
    refine ⟨.inl (k.defers.trans hM), ?_⟩
    rintro w' (⟨rfl, _⟩ | ⟨D, h, _⟩)
    · exact ⟨_, run_results k hrs hv, hR⟩
    · rw [k.defers.trans hM] at h; cases h
theorem RC.doneM {fn : Func} {D : Nat} {R : Value → World → Prop} {rs : List ResultVar} {vs : List Value} (hrs : fn.results = rs.toArray) (hp : p.ret = (Post.fnM P fn R).ret) (hv : ∀ w, resVs P F w rs vs) (hD : Df D w) (hR : ∀ w', Agr (· = D) w w' → w'.heap.size = w.heap.size → R (tup vs) w') (hM : n.marks = [markD D] := by rfl) : RC P n .ret F w p :=
  RC.ret fun a k => by
    rw [hp]
    refine ⟨.inr ⟨D, k.defers.trans hM, hD⟩, ?_⟩
    rintro w' (⟨_, h⟩ | ⟨D', h, e⟩)
    · rw [k.defers.trans hM] at h; cases h
    · rw [k.defers.trans hM] at h
      obtain rfl : D = D' := by
        have := (List.cons.inj h).1
        simp only [markD, Deferred.mk.injEq, Target.collected.injEq] at this
        exact this.1
      subst e
      exact ⟨_, run_results k hrs (hv _), hR _ agr_put (by simp)⟩
theorem Df.lt {D w} (h : Df D w) : D < w.heap.size := by
  unfold Df at h
  rcases Nat.lt_or_ge D w.heap.size with q | q
  · exact q
  · rw [Array.getElem?_eq_none q] at h; cases h
theorem Df.step {N : Nat → Prop} {D w w'} (h : Df D w) (k : Agr N w w') (hn : ¬ N D) : Df D w' := (k.block D h.lt hn).trans h
theorem Df.sub {D w w'} (h : Df D w) (s : Sub w w') : Df D w' := (s.block D h.lt).trans h
theorem Df.upd {D w w' b} (h : Df D w) (a : Agr (· = b) w w') (hn : D ≠ b) : Df D w' := h.step a hn
theorem Df.ne {D w b} (h : Df D w) (hb : b = w.heap.size) : D ≠ b := fun e => by have := h.lt; omega

def Up (C : Nat → Prop) (w : World) (C' : Nat → Prop) : Prop := ∀ k, C' k → C k ∨ w.heap.size ≤ k
theorem Up.refl (C : Nat → Prop) (w : World) : Up C w C := fun _ h => .inl h
theorem Up.le {C C' : Nat → Prop} {w w1 : World} (h : Up C w1 C') (hz : w.heap.size ≤ w1.heap.size) : Up C w C' := fun k hk => (h k hk).imp id (Nat.le_trans hz)
theorem Up.trans {C C1 C2 : Nat → Prop} {w : World} (h : Up C w C1) (k : Up C1 w C2) : Up C w C2 := fun i hi => (k i hi).elim (h i) .inr
theorem Up.not {C C' : Nat → Prop} {w : World} {b : Nat} (h : Up C w C') (hb : b < w.heap.size) (hn : ¬ C b) : ¬ C' b := fun e => (h b e).elim hn (fun e => by omega)
theorem upNe {M M' : Nat → Prop} {w : World} {b : Nat} (h : Up M w M') (d : ∀ k, M k → k ≠ b) (hb : b < w.heap.size) : ∀ k, M' k → k ≠ b := fun k hk e => h.not hb (fun e' => d _ e' rfl) (e ▸ hk)
theorem upDD {M M' : Nat → Prop} {w : World} {v : Value} (h : Up M w M') (d : ∀ k, ob v = some k → M k → False) (hb : ∀ k, ob v = some k → k < w.heap.size) : ∀ k, ob v = some k → M' k → False := fun k hk => h.not (hb k hk) (d k hk)
theorem _root_.Go.XL.Agr.up {C C1 : Nat → Prop} {w w1 w2 : World} (h : Agr C w w1) (u : Up C w C1) (k : Agr C1 w1 w2) : Agr C w w2 :=
  ⟨k.os.trans h.os, k.tape.trans h.tape, k.output.trans h.output, Nat.le_trans h.size k.size, fun i hi hn =>
    (k.block i (Nat.lt_of_lt_of_le hi h.size) (u.not hi hn)).trans (h.block i hi hn)⟩
/-- C are the blocks that it may turn; it may add new ones; cnt goes on by one at most, and stays below N -/
def YT {σ α : Type} (P : Program) (l : Nat) (enc : α → Value) (ok : α → Prop) (cnt : σ → Nat) (N : Nat) (H : σ → Bool → (Nat → Prop) → World → Prop) (step : σ → α → σ × Bool) : Prop :=
  ∀ (s : σ) (x : α) (C : Nat → Prop) (W : World), ok x → cnt s < N → Ft C (H s true C) W → FY P l [enc x] W (fun v w' => ∃ C', v = .bool (step s x).2 ∧ Ft C' (H (step s x).1 (step s x).2 C') w' ∧ Agr C W w' ∧ Up C W C')
/-- all of a row, until it is enough -/
def pushF {σ α : Type} (step : σ → α → σ × Bool) (s : σ) : List α → σ × Bool
  | [] => (s, true)
  | x :: xs => if (step s x).2 = true then pushF step (step s x).1 xs else ((step s x).1, false)
section
variable {σ α : Type} {step : σ → α → σ × Bool} {s : σ} {x : α}
theorem pushF_app {L R : List α} (h : (pushF step s L).2 = true) : pushF step s (L ++ R) = pushF step (pushF step s L).1 R := by
  induction L generalizing s with
  | nil => rfl
  | cons y L ih =>
    simp only [List.cons_append, pushF] at h ⊢
    by_cases q : (step s y).2 = true
    · rw [if_pos q] at h; rw [if_pos q, if_pos q]; exact ih h
    · rw [if_neg q] at h; cases h
theorem pushF_l {L R : List α} (h : (pushF step s L).2 = false) : pushF step s (L ++ R) = pushF step s L := by
  induction L generalizing s with
  | nil => simp [pushF] at h
  | cons y L ih =>
    simp only [List.cons_append, pushF] at h ⊢
    by_cases q : (step s y).2 = true
    · rw [if_pos q] at h; rw [if_pos q, if_pos q]; exact ih h
    · rw [if_neg q, if_neg q]
theorem pushF_cnt {cnt : σ → Nat} (h : ∀ s x, cnt (step s x).1 ≤ cnt s + 1) : ∀ (L : List α) (s : σ), cnt (pushF step s L).1 ≤ cnt s + L.length
  | [], s => Nat.le_refl _
  | x :: L, s => by
    have h1 := h s x
    rw [pushF]
    split
    · have := pushF_cnt h L (step s x).1
      simp only [List.length_cons]; omega
    · simp only [List.length_cons]; omega
theorem pushF_t {xs : List α} (h : (step s x).2 = true) : pushF step s (x :: xs) = pushF step (step s x).1 xs := by rw [pushF, if_pos h]
theorem pushF_f {xs : List α} (h : (step s x).2 = false) : pushF step s (x :: xs) = ((step s x).1, false) := by rw [pushF, if_neg (by simp [h])]
end
end
end Go.Proofs.YtbjmllnddanniaaGreat
set_option linter.unusedVariables false
set_option linter.unusedSimpArgs false
namespace Go.Proofs.YtbjmllnddanniaaGreat
open Go Go.XL
abbrev Ho (b : Nat) (s : St) (C : Nat → Prop) (u : World) : Prop := FoG 195 b s C u
theorem c_hget (b : Nat) (s : St) (C : Nat → Prop) (r : Int) (hr : U64 r) (w : World) (hF : Ft C (Ho b s C) w) :
    FC Tryz.prog 200 [.pointer (some ⟨b, 0, none⟩), .int .u64 r] w (Val (getN s.1 r).val w) := by
  obtain ⟨hCb, na, fa, nc, fc, M, hbf, hnc, hfc, hA, hMb, hMC⟩ := hF.now
  obtain ⟨e, hgv⟩ := getN_v s.1 r
  have hA := hA.now
  refine FC.intro Tryz.func200 rfl Tryz.ntmps200 rfl ?_
  have S := Sub.refl w
  refine RC.seq ?_
  refine RC.region rfl ?_
  refine RL.alloc ze140 rfl rfl (fun b_4 w_4 e_4 z_4 hb_4 s_4 => ?_)
  have ge_4 := S.le e_4
  have n__4 := hbf.ne e_4
  have S := S.trans s_4
  have hbf := hbf.sub s_4
  refine RL.nil (RC.back ?_)
  refine RC.seq ?_
  refine RC.region rfl ?_
  refine RL.ev (.move rfl) rfl rfl ?_
  refine RL.ev (.nilCheck rfl) rfl rfl ?_
  refine RL.ev (.field0 fo195_0 rfl) rfl rfl ?_
  refine RL.ev (.loadR (wvA na fa nc fc s.1) sh26 rfl (row_pref (xs := wvA na fa nc fc s.1) (ys := [.int .i64 s.2]) hbf) rfl) rfl rfl ?_
  refine RL.ev (.move rfl) rfl rfl ?_
  refine RL.call rfl ok125 (c_aGet s.1 na fa nc fc r hr w_4 (hA.sub S)) rfl rfl ?_
  rintro _ w1 ⟨rfl, s2⟩
  have S := S.trans s2
  have hbf := hbf.sub s2
  have hb_4 := hb_4.sub s2
  refine RL.ev (.as (v' := .tuple #[(getN s.1 r).val, .int .i64 e]) (.move rfl) (by rw [hgv])) rfl rfl ?_
  refine RL.ev (.extract rfl rfl) rfl rfl ?_
  refine RL.ev (.extract rfl rfl) rfl rfl ?_
  refine RL.alloc ze140 rfl rfl (fun b_5 w_5 e_5 z_5 hb_5 s_5 => ?_)
  have ge_5 := S.le e_5
  have n__5 := hbf.ne e_5
  have n_4__5 := hb_4.ne e_5
  have S := S.trans s_5
  have hbf := hbf.sub s_5
  have hb_4 := hb_4.sub s_5
  refine RL.store sh140 rfl rfl rfl hb_5 (by exact Nat.le_of_ble_eq_true rfl) (by rfl) rfl (fun w3 z3 hb_5 a3 => ?_)
  have S := S.upd a3 ge_5
  have hbf := hbf.upd a3 n__5
  have hb_4 := hb_4.upd a3 n_4__5
  have hb_5 : Has w3 b_5 ((getN s.1 r).cells) _ := hb_5.now (by kernel_rfl)
  refine RL.ev (.assign rfl) rfl rfl ?_
  refine RL.nil (RC.back ?_)
  refine RC.seq ?_
  refine RC.region rfl ?_
  refine RL.ev (.loadR ((getN s.1 r).cells) sh140 rfl hb_5.row rfl) rfl rfl ?_
  refine RL.store sh140 rfl rfl rfl hb_4 (by exact Nat.le_of_ble_eq_true rfl) (by rfl) rfl (fun w4 z4 hb_4 a4 => ?_)
  have S := S.upd a4 ge_4
  have hbf := hbf.upd a4 n__4
  have hb_5 := hb_5.upd a4 n_4__5.symm
  have hb_4 : Has w4 b_4 ((getN s.1 r).cells) _ := hb_4.now (by kernel_rfl)
  refine RL.nil (RC.back ?_)
  refine RC.done (rs := [.cell 4 140]) (vs := [_]) rfl rfl ⟨⟨_, rfl, .inr ⟨(getN s.1 r).cells, sh140, hb_4.row, rfl⟩⟩, trivial⟩ ?_
  -- end 1
  exact ⟨rfl, S⟩
def hC (kd s : Int) (ks : List Int) : List Value := (hN kd 0 0 0 s ks).cells
end Go.Proofs.YtbjmllnddanniaaGreat
set_option linter.unusedVariables false
set_option linter.unusedSimpArgs false
namespace Go.Proofs.YtbjmllnddanniaaGreat
open Go Go.XL
def layF : Nat → List Node → Nat → List It → List Node × Int
  | 0, ns, _, _ => (ns, 0)
  | k + 1, ns, at_, l => if topL l < 0 then (ns, 0) else
    ((layF k (layF k ns (at_ + 1) (l.take (topL l).toNat)).1 (at_ + 1 + (topL l).toNat) (l.drop ((topL l).toNat + 1))).1.set at_
      (tNode 0 (l.getD (topL l).toNat it0).k (l.getD (topL l).toNat it0).v l.length (layF k ns (at_ + 1) (l.take (topL l).toNat)).2 (layF k (layF k ns (at_ + 1) (l.take (topL l).toNat)).1 (at_ + 1 + (topL l).toNat) (l.drop ((topL l).toNat + 1))).2), (at_ : Int) + 1)
theorem layF_nil (k : Nat) (ns : List Node) (at_ : Nat) : layF (k + 1) ns at_ [] = (ns, 0) := rfl
theorem layF_len : ∀ (k : Nat) (ns : List Node) (at_ : Nat) (l : List It), (layF k ns at_ l).1.length = ns.length
  | 0, _, _, _ => rfl
  | k + 1, ns, at_, l => by
    rw [layF]
    split
    · rfl
    · simp only [List.length_set]; rw [layF_len, layF_len]
structure LayOk (ns : List Node) (at_ : Nat) (l : List It) (res : List Node × Int) : Prop where
  same : ∀ i : Nat, (i < at_ ∨ at_ + l.length ≤ i) → res.1[i]? = ns[i]?
  isT : ∀ A : Ar, (∀ i : Nat, at_ ≤ i → i < at_ + l.length → A.nodes[i]? = res.1[i]?) → IsT A res.2 l
  good : ∀ (i : Nat) y, at_ ≤ i → i < at_ + l.length → res.1[i]? = some y → y.kind = 1 ∧ well y = true ∧ ((∀ z ∈ l, z.ok) → y.ok)
  u : U64 res.2
  right : rightR res.2 = true
theorem lay_ok : ∀ (k : Nat) (ns : List Node) (at_ : Nat) (l : List It), l.length < k → Srt l → at_ + l.length ≤ ns.length → ns.length ≤ 512 → LayOk ns at_ l (layF k ns at_ l)
  | 0, _, _, _, h, _, _, _ => absurd h (by omega)
  | k + 1, ns, at_, l, hk, hs, hat, hn => by
    by_cases ht : topL l < 0
    · obtain rfl := topL_neg ht
      rw [layF_nil]
      exact ⟨fun _ _ => rfl, fun A _ => .nil, fun i y h1 h2 => absurd h2 (by simp; omega), zu64, (show rightR 0 = true by decide)⟩
    have hl : 0 < l.length := by
      rcases Nat.eq_zero_or_pos l.length with e | e
      · rw [List.eq_nil_of_length_eq_zero e] at ht; exact absurd (show topL [] < 0 by decide) ht
      · exact e
    have hr := topL_rng hl
    obtain ⟨it, hit⟩ := getSome (l := l) (i := (topL l).toNat) (by omega)
    have hgd : l.getD (topL l).toNat it0 = it := by rw [List.getD_eq_getElem?_getD, hit]; rfl
    have hsp := split_at hit
    have hbest := top_all hs hl hit
    obtain ⟨t, ht2⟩ : ∃ t, (topL l).toNat = t := ⟨_, rfl⟩
    have htl : t < l.length := by omega
    rw [layF, if_neg ht, hgd]
    rw [ht2] at hsp hbest hit ⊢
    have hL : (l.take t).length = t := by rw [List.length_take]; omega
    have hR : (l.drop (t + 1)).length = l.length - (t + 1) := List.length_drop
    have o1 := lay_ok k ns (at_ + 1) (l.take t) (by omega) (hs.take _) (by omega) hn
    have e1 := layF_len k ns (at_ + 1) (l.take t)
    obtain ⟨⟨n1, a⟩, h1⟩ : ∃ p, layF k ns (at_ + 1) (l.take t) = p := ⟨_, rfl⟩
    rw [h1] at o1 e1 ⊢
    simp only [] at o1 e1 ⊢
    have o2 := lay_ok k n1 (at_ + 1 + t) (l.drop (t + 1)) (by omega) (hs.drop _) (by omega) (by omega)
    have e2 := layF_len k n1 (at_ + 1 + t) (l.drop (t + 1))
    obtain ⟨⟨n2, b⟩, h2⟩ : ∃ p, layF k n1 (at_ + 1 + t) (l.drop (t + 1)) = p := ⟨_, rfl⟩
    rw [h2] at o2 e2 ⊢
    simp only [] at o2 e2 ⊢
    have hp := place_of_at (a := at_) (by omega)
    have hself : (n2.set at_ (tNode 0 it.k it.v l.length a b))[at_]? = some (tNode 0 it.k it.v l.length a b) := List.getElem?_set_self (by omega)
    have hoth : ∀ i, ¬ i = at_ → (n2.set at_ (tNode 0 it.k it.v l.length a b))[i]? = n2[i]? := fun i h => List.getElem?_set_ne (fun e => h e.symm)
    refine ⟨fun i h => ?_, fun A hA => ?_, fun i y h3 h4 hy => ?_, hp.2.2.1, hp.2.2.2⟩
    · have hi : ¬ i = at_ := by omega
      show (n2.set at_ _)[i]? = _
      rw [hoth i hi, o2.same i (by omega), o1.same i (by omega)]
    · have hlen : ((l.take t).length : Int) + (l.drop (t + 1)).length + 1 = l.length := by omega
      rw [hsp]
      refine IsT.node (g := 0) (a := a) (b := b) ?_ (o1.isT A fun i q1 q2 => ?_) (o2.isT A fun i q1 q2 => ?_) hbest (hsp ▸ hs)
      · rw [hlen]
        have hg := hA at_ (Nat.le_refl _) (by omega)
        rw [hself] at hg
        have hpp : (placeR ((at_ : Int) + 1)).toNat = at_ := by rw [hp.1]; exact Int.toNat_natCast _
        rw [getA_at (x := tNode 0 it.k it.v l.length a b) (by rw [hp.1]; omega) (by rw [hpp]; exact hg), if_neg]
        rintro (e | e)
        · cases e
        · exact e hp.2.1.symm
      · rw [hA i (by omega) (by omega), hoth i (by omega), o2.same i (by omega)]
      · rw [hA i (by omega) (by omega), hoth i (by omega)]
    · by_cases e : i = at_
      · subst e
        change (n2.set i _)[i]? = _ at hy
        rw [hself] at hy
        cases hy
        refine ⟨rfl, (well_iff _).2 ⟨⟨Int.le_refl 0, (show (0 : Int) ≤ 1048576 by omega), Int.le_refl 0, (show (0 : Int) ≤ 9 by omega), Int.le_refl 0, (show (0 : Int) ≤ 9 by omega)⟩, ?_⟩, fun hok => ?_⟩
        · simp only [Node.kids, tNode, List.all_cons, o1.right, o2.right, List.all_nil, Bool.and_true, Bool.true_and]
          decide
        · have hi := hok it (List.mem_of_getElem? hit)
          refine ⟨(show I64 1 by unfold I64; omega), z64, hi.1, hi.2, (show I64 (l.length : Int) by unfold I64; omega), fun q hq => ?_, z64, z64⟩
          simp only [Node.kids, tNode, List.mem_cons, List.not_mem_nil, or_false] at hq
          rcases hq with rfl | rfl | rfl | rfl | rfl | rfl | rfl | rfl | rfl
          · exact o1.u
          · exact o2.u
          all_goals exact zu64
      · change (n2.set at_ _)[i]? = _ at hy
        rw [hoth i e] at hy
        by_cases q : i < at_ + 1 + t
        · rw [o2.same i (by omega)] at hy
          have := o1.good i y (by omega) (by omega) hy
          exact ⟨this.1, this.2.1, fun hok => this.2.2 (fun z hz => hok z (List.mem_of_mem_take hz))⟩
        · have := o2.good i y (by omega) (by omega) hy
          exact ⟨this.1, this.2.1, fun hok => this.2.2 (fun z hz => hok z (List.mem_of_mem_drop hz))⟩
def buildA (size : Nat) (l : List It) : Ar := ⟨(layF (l.length + 1) (List.replicate size (bareN 0)) 0 l).1, freeB size (size - l.length)⟩
def buildR (size : Nat) (l : List It) : Int := (layF (l.length + 1) (List.replicate size (bareN 0)) 0 l).2
structure BuildOk (size : Nat) (l : List It) : Prop where
  ok : AOk (buildA size l)
  isT : IsT (buildA size l) (buildR size l) l
  len : (buildA size l).nodes.length = size
  free : (buildA size l).free.length = size - l.length
  u : U64 (buildR size l)
  nok : (∀ z ∈ l, z.ok) → ∀ y ∈ (buildA size l).nodes, y.ok
theorem build_ok {size : Nat} {l : List It} (hs : Srt l) (h : l.length ≤ size) (h1 : 1 ≤ size) (h2 : size ≤ 512) : BuildOk size l := by
  have hrep : (List.replicate size (bareN 0)).length = size := List.length_replicate
  have o := lay_ok (l.length + 1) (List.replicate size (bareN 0)) 0 l (by omega) hs (by omega) (by omega)
  have hl : (buildA size l).nodes.length = size := by simp only [buildA]; rw [layF_len, hrep]
  have hout : ∀ (i : Nat) y, l.length ≤ i → (buildA size l).nodes[i]? = some y → y = bareN 0 := fun i y hi hy => by
    simp only [buildA] at hy
    rw [o.same i (by omega)] at hy
    exact (List.mem_replicate.1 (List.mem_of_getElem? hy)).2
  have hin : ∀ (i : Nat) y, i < l.length → (buildA size l).nodes[i]? = some y → y.kind = 1 ∧ well y = true ∧ ((∀ z ∈ l, z.ok) → y.ok) := fun i y hi hy => o.good i y (by omega) (by omega) hy
  refine ⟨⟨by omega, by omega, ?_, ?_, freeB_nodup _ _, ?_, ?_, ?_⟩, o.isT _ (fun i _ _ => rfl), hl, freeB_len _ _, o.u, ?_⟩
  · rw [hl]; simp only [buildA]; rw [freeB_len]; omega
  · intro x hx; have := freeB_mem.1 hx; rw [hl]; omega
  · intro x hx
    obtain ⟨i, hi⟩ := List.getElem?_of_mem hx
    by_cases q : i < l.length
    · exact (hin i x q hi).2.1
    · rw [hout i x (by omega) hi]; decide
  · intro i x hx
    have hi := lt_of_get hx
    by_cases q : i < l.length
    · have := (hin i x q hx).1
      constructor
      · intro e; omega
      · intro hm; have := freeB_mem.1 hm; omega
    · rw [hout i x (by omega) hx]
      exact ⟨fun _ => freeB_mem.2 (by omega), fun _ => rfl⟩
  · intro i x hx hm
    have hi := lt_of_get hx
    have := freeB_mem.1 hm
    rw [hout i x (by omega) hx]; rfl
  · intro hok y hy
    obtain ⟨i, hi⟩ := List.getElem?_of_mem hy
    by_cases q : i < l.length
    · exact (hin i y q hi).2.2 hok
    · rw [hout i y (by omega) hi]; exact bareN_ok z64
theorem build_map {size : Nat} {l : List It} (hs : Srt l) (h : l.length ≤ size) (h1 : 1 ≤ size) (h2 : size ≤ 512) (h3 : l.length ≤ 200) : isMap (buildA size l) (buildR size l) :=
  ⟨(build_ok hs h h1 h2).ok, l, (build_ok hs h h1 h2).isT, h3⟩
end Go.Proofs.YtbjmllnddanniaaGreat
