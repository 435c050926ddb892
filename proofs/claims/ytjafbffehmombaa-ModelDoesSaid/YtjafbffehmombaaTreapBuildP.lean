/-
  A map built of a row, in plain Lean.
-/
import Derived.Test.YtjafbffehmombaaTreapRows
import Derived.Test.YtjafbffehmombaaForge
set_option linter.unusedVariables false
set_option linter.unusedSimpArgs false
namespace Go.Proofs.Ytjafbffehmombaa
open Go Go.XL

def layF : Nat → List Node → Nat → List It → List Node × Int
  | 0, ns, _, _ => (ns, 0)
  | k + 1, ns, at_, l => if topL l < 0 then (ns, 0) else
    ((layF k (layF k ns (at_ + 1) (l.take (topL l).toNat)).1 (at_ + 1 + (topL l).toNat) (l.drop ((topL l).toNat + 1))).1.set at_
      (tNode 0 (l.getD (topL l).toNat it0).k (l.getD (topL l).toNat it0).v l.length (layF k ns (at_ + 1) (l.take (topL l).toNat)).2 (layF k (layF k ns (at_ + 1) (l.take (topL l).toNat)).1 (at_ + 1 + (topL l).toNat) (l.drop ((topL l).toNat + 1))).2), (at_ : Int) + 1)
theorem layF_nil (k : Nat) (ns : List Node) (at_ : Nat) : layF (k + 1) ns at_ [] = (ns, 0) := rfl
theorem layF_len : ∀ (k : Nat) (ns : List Node) (at_ : Nat) (l : List It), (layF k ns at_ l).1.length = ns.length
  | 0, _, _, _ => rfl
  | k + 1, ns, at_, l => by
    rw [layF]
    split
    · rfl
    · simp only [List.length_set]; rw [layF_len, layF_len]
structure LayOk (ns : List Node) (at_ : Nat) (l : List It) (res : List Node × Int) : Prop where
  same : ∀ i : Nat, (i < at_ ∨ at_ + l.length ≤ i) → res.1[i]? = ns[i]?
  isT : ∀ A : Ar, (∀ i : Nat, at_ ≤ i → i < at_ + l.length → A.nodes[i]? = res.1[i]?) → IsT A res.2 l
  good : ∀ (i : Nat) y, at_ ≤ i → i < at_ + l.length → res.1[i]? = some y → y.kind = 1 ∧ well y = true ∧ ((∀ z ∈ l, z.ok) → y.ok)
  u : U64 res.2
  right : rightR res.2 = true
theorem lay_ok : ∀ (k : Nat) (ns : List Node) (at_ : Nat) (l : List It), l.length < k → Srt l → at_ + l.length ≤ ns.length → ns.length ≤ 512 → LayOk ns at_ l (layF k ns at_ l)
  | 0, _, _, _, h, _, _, _ => absurd h (by omega)
  | k + 1, ns, at_, l, hk, hs, hat, hn => by
    by_cases ht : topL l < 0
    · obtain rfl := topL_neg ht
      rw [layF_nil]
      exact ⟨fun _ _ => rfl, fun A _ => .nil, fun i y h1 h2 => absurd h2 (by simp; omega), zu64, (show rightR 0 = true by decide)⟩
    have hl : 0 < l.length := by
      rcases Nat.eq_zero_or_pos l.length with e | e
      · rw [List.eq_nil_of_length_eq_zero e] at ht; exact absurd (show topL [] < 0 by decide) ht
      · exact e
    have hr := topL_rng hl
    obtain ⟨it, hit⟩ := getSome (l := l) (i := (topL l).toNat) (by omega)
    have hgd : l.getD (topL l).toNat it0 = it := by rw [List.getD_eq_getElem?_getD, hit]; rfl
    have hsp := split_at hit
    have hbest := top_all hs hl hit
    obtain ⟨t, ht2⟩ : ∃ t, (topL l).toNat = t := ⟨_, rfl⟩
    have htl : t < l.length := by omega
    rw [layF, if_neg ht, hgd]
    rw [ht2] at hsp hbest hit ⊢
    have hL : (l.take t).length = t := by rw [List.length_take]; omega
    have hR : (l.drop (t + 1)).length = l.length - (t + 1) := List.length_drop
    have o1 := lay_ok k ns (at_ + 1) (l.take t) (by omega) (hs.take _) (by omega) hn
    have e1 := layF_len k ns (at_ + 1) (l.take t)
    obtain ⟨⟨n1, a⟩, h1⟩ : ∃ p, layF k ns (at_ + 1) (l.take t) = p := ⟨_, rfl⟩
    rw [h1] at o1 e1 ⊢
    simp only [] at o1 e1 ⊢
    have o2 := lay_ok k n1 (at_ + 1 + t) (l.drop (t + 1)) (by omega) (hs.drop _) (by omega) (by omega)
    have e2 := layF_len k n1 (at_ + 1 + t) (l.drop (t + 1))
    obtain ⟨⟨n2, b⟩, h2⟩ : ∃ p, layF k n1 (at_ + 1 + t) (l.drop (t + 1)) = p := ⟨_, rfl⟩
    rw [h2] at o2 e2 ⊢
    simp only [] at o2 e2 ⊢
    have hp := place_of_at (a := at_) (by omega)
    have hself : (n2.set at_ (tNode 0 it.k it.v l.length a b))[at_]? = some (tNode 0 it.k it.v l.length a b) := List.getElem?_set_self (by omega)
    have hoth : ∀ i, ¬ i = at_ → (n2.set at_ (tNode 0 it.k it.v l.length a b))[i]? = n2[i]? := fun i h => List.getElem?_set_ne (fun e => h e.symm)
    refine ⟨fun i h => ?_, fun A hA => ?_, fun i y h3 h4 hy => ?_, hp.2.2.1, hp.2.2.2⟩
    · have hi : ¬ i = at_ := by omega
      show (n2.set at_ _)[i]? = _
      rw [hoth i hi, o2.same i (by omega), o1.same i (by omega)]
    · have hlen : ((l.take t).length : Int) + (l.drop (t + 1)).length + 1 = l.length := by omega
      rw [hsp]
      refine IsT.node (g := 0) (a := a) (b := b) ?_ (o1.isT A fun i q1 q2 => ?_) (o2.isT A fun i q1 q2 => ?_) hbest (hsp ▸ hs)
      · rw [hlen]
        have hg := hA at_ (Nat.le_refl _) (by omega)
        rw [hself] at hg
        have hpp : (placeR ((at_ : Int) + 1)).toNat = at_ := by rw [hp.1]; exact Int.toNat_natCast _
        rw [getA_at (x := tNode 0 it.k it.v l.length a b) (by rw [hp.1]; omega) (by rw [hpp]; exact hg), if_neg]
        rintro (e | e)
        · cases e
        · exact e hp.2.1.symm
      · rw [hA i (by omega) (by omega), hoth i (by omega), o2.same i (by omega)]
      · rw [hA i (by omega) (by omega), hoth i (by omega)]
    · by_cases e : i = at_
      · subst e
        change (n2.set i _)[i]? = _ at hy
        rw [hself] at hy
        cases hy
        refine ⟨rfl, (well_iff _).2 ⟨⟨Int.le_refl 0, (show (0 : Int) ≤ 1048576 by omega), Int.le_refl 0, (show (0 : Int) ≤ 9 by omega), Int.le_refl 0, (show (0 : Int) ≤ 9 by omega)⟩, ?_⟩, fun hok => ?_⟩
        · simp only [Node.kids, tNode, List.all_cons, o1.right, o2.right, List.all_nil, Bool.and_true, Bool.true_and]
          decide
        · have hi := hok it (List.mem_of_getElem? hit)
          refine ⟨(show I64 1 by unfold I64; omega), z64, hi.1, hi.2, (show I64 (l.length : Int) by unfold I64; omega), fun q hq => ?_, z64, z64⟩
          simp only [Node.kids, tNode, List.mem_cons, List.not_mem_nil, or_false] at hq
          rcases hq with rfl | rfl | rfl | rfl | rfl | rfl | rfl | rfl | rfl
          · exact o1.u
          · exact o2.u
          all_goals exact zu64
      · change (n2.set at_ _)[i]? = _ at hy
        rw [hoth i e] at hy
        by_cases q : i < at_ + 1 + t
        · rw [o2.same i (by omega)] at hy
          have := o1.good i y (by omega) (by omega) hy
          exact ⟨this.1, this.2.1, fun hok => this.2.2 (fun z hz => hok z (List.mem_of_mem_take hz))⟩
        · have := o2.good i y (by omega) (by omega) hy
          exact ⟨this.1, this.2.1, fun hok => this.2.2 (fun z hz => hok z (List.mem_of_mem_drop hz))⟩
def buildA (size : Nat) (l : List It) : Ar := ⟨(layF (l.length + 1) (List.replicate size (bareN 0)) 0 l).1, freeB size (size - l.length)⟩
def buildR (size : Nat) (l : List It) : Int := (layF (l.length + 1) (List.replicate size (bareN 0)) 0 l).2
structure BuildOk (size : Nat) (l : List It) : Prop where
  ok : AOk (buildA size l)
  isT : IsT (buildA size l) (buildR size l) l
  len : (buildA size l).nodes.length = size
  free : (buildA size l).free.length = size - l.length
  u : U64 (buildR size l)
  nok : (∀ z ∈ l, z.ok) → ∀ y ∈ (buildA size l).nodes, y.ok
theorem build_ok {size : Nat} {l : List It} (hs : Srt l) (h : l.length ≤ size) (h1 : 1 ≤ size) (h2 : size ≤ 512) : BuildOk size l := by
  have hrep : (List.replicate size (bareN 0)).length = size := List.length_replicate
  have o := lay_ok (l.length + 1) (List.replicate size (bareN 0)) 0 l (by omega) hs (by omega) (by omega)
  have hl : (buildA size l).nodes.length = size := by simp only [buildA]; rw [layF_len, hrep]
  have hout : ∀ (i : Nat) y, l.length ≤ i → (buildA size l).nodes[i]? = some y → y = bareN 0 := fun i y hi hy => by
    simp only [buildA] at hy
    rw [o.same i (by omega)] at hy
    exact (List.mem_replicate.1 (List.mem_of_getElem? hy)).2
  have hin : ∀ (i : Nat) y, i < l.length → (buildA size l).nodes[i]? = some y → y.kind = 1 ∧ well y = true ∧ ((∀ z ∈ l, z.ok) → y.ok) := fun i y hi hy => o.good i y (by omega) (by omega) hy
  refine ⟨⟨by omega, by omega, ?_, ?_, freeB_nodup _ _, ?_, ?_, ?_⟩, o.isT _ (fun i _ _ => rfl), hl, freeB_len _ _, o.u, ?_⟩
  · rw [hl]; simp only [buildA]; rw [freeB_len]; omega
  · intro x hx; have := freeB_mem.1 hx; rw [hl]; omega
  · intro x hx
    obtain ⟨i, hi⟩ := List.getElem?_of_mem hx
    by_cases q : i < l.length
    · exact (hin i x q hi).2.1
    · rw [hout i x (by omega) hi]; decide
  · intro i x hx
    have hi := lt_of_get hx
    by_cases q : i < l.length
    · have := (hin i x q hx).1
      constructor
      · intro e; omega
      · intro hm; have := freeB_mem.1 hm; omega
    · rw [hout i x (by omega) hx]
      exact ⟨fun _ => freeB_mem.2 (by omega), fun _ => rfl⟩
  · intro i x hx hm
    have hi := lt_of_get hx
    have := freeB_mem.1 hm
    rw [hout i x (by omega) hx]; rfl
  · intro hok y hy
    obtain ⟨i, hi⟩ := List.getElem?_of_mem hy
    by_cases q : i < l.length
    · exact (hin i y q hi).2.2 hok
    · rw [hout i y (by omega) hi]; exact bareN_ok z64
theorem build_map {size : Nat} {l : List It} (hs : Srt l) (h : l.length ≤ size) (h1 : 1 ≤ size) (h2 : size ≤ 512) (h3 : l.length ≤ 200) : isMap (buildA size l) (buildR size l) :=
  ⟨(build_ok hs h h1 h2).ok, l, (build_ok hs h h1 h2).isT, h3⟩
end Go.Proofs.Ytjafbffehmombaa
