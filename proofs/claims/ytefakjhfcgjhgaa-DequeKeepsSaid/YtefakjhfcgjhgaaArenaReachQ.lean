/-
  What is reached is what may be reached; the references of a set tell it.
-/
import Derived.Test.YtefakjhfcgjhgaaArenaReach
set_option linter.unusedVariables false
set_option linter.unusedSimpArgs false
namespace Go.Proofs.Ytefakjhfcgjhgaa
open Go Go.XL

def kidsAt (A : Ar) (p : Int) : List Int := (A.nodes.getD p.toNat (bareN 0)).kids
theorem kidsAt_of {A : Ar} {r : Int} {x : Node} (h : getA A r = some x) : kidsAt A (placeR r) = x.kids := by
  rw [kidsAt, List.getD_eq_getElem?_getD, (getA_get h).1]; rfl
theorem visitF_sub {A : Ar} {k : Nat} {out : List Int} {r p : Int} (hp : Pl A out) (h : p ∈ out) : p ∈ visitF A k out r := by
  obtain ⟨_, l, e⟩ := visitF_pl A k out r hp
  rw [e]; exact List.mem_append_left _ h
theorem visits_pl {A : Ar} {k : Nat} : ∀ (ks o : List Int), Pl A o → Pl A (ks.foldl (visitF A k) o) ∧ ∃ l, ks.foldl (visitF A k) o = o ++ l := by
  intro ks
  induction ks with
  | nil => intro o ho; exact ⟨ho, [], by simp⟩
  | cons q ks ih =>
    intro o ho
    obtain ⟨h1, l1, h2⟩ := visitF_pl A k o q ho
    obtain ⟨h3, l2, h4⟩ := ih _ h1
    exact ⟨h3, l1 ++ l2, by rw [List.foldl_cons, h4, h2, List.append_assoc]⟩
/-- closed but for what was there -/
def Clo (A : Ar) (out res : List Int) : Prop := ∀ p ∈ res, p ∉ out → ∀ q ∈ kidsAt A p, ∀ x, getA A q = some x → placeR q ∈ res
theorem visits_clo {A : Ar} {k : Nat} (ih : ∀ (out : List Int) (r : Int), A.nodes.length < out.length + k → Pl A out → Clo A out (visitF A k out r) ∧ ∀ x, getA A r = some x → placeR r ∈ visitF A k out r) :
    ∀ (ks o : List Int), A.nodes.length < o.length + k → Pl A o → Clo A o (ks.foldl (visitF A k) o) ∧ ∀ q ∈ ks, ∀ x, getA A q = some x → placeR q ∈ ks.foldl (visitF A k) o := by
  intro ks
  induction ks with
  | nil => intro o _ _; exact ⟨fun p hp hn => absurd hp hn, fun q hq => by simp at hq⟩
  | cons q ks ih2 =>
    intro o hk ho
    obtain ⟨c1, m1⟩ := ih o q hk ho
    obtain ⟨h1, l1, h2⟩ := visitF_pl A k o q ho
    obtain ⟨c2, m2⟩ := ih2 (visitF A k o q) (by rw [h2, List.length_append]; omega) h1
    obtain ⟨h3, l3, h4⟩ := visits_pl (k := k) ks _ h1
    rw [List.foldl_cons]
    have up : ∀ p, p ∈ visitF A k o q → p ∈ ks.foldl (visitF A k) (visitF A k o q) := fun p hp => by rw [h4]; exact List.mem_append_left _ hp
    refine ⟨fun p hp hn q' hq' x hx => ?_, fun q' hq' x hx => ?_⟩
    · by_cases hp1 : p ∈ visitF A k o q
      · exact up _ (c1 p hp1 hn q' hq' x hx)
      · exact c2 p hp hp1 q' hq' x hx
    · rcases List.mem_cons.1 hq' with e | h
      · subst e; exact up _ (m1 x hx)
      · exact m2 q' h x hx
theorem visitF_clo (A : Ar) : ∀ (k : Nat) (out : List Int) (r : Int), A.nodes.length < out.length + k → Pl A out → Clo A out (visitF A k out r) ∧ ∀ x, getA A r = some x → placeR r ∈ visitF A k out r
  | 0, out, r, hk, hp => absurd hp.len (by omega)
  | k + 1, out, r, hk, hp => by
    cases hg : getA A r with
    | none => rw [visitF_no hg]; exact ⟨fun p hp hn => absurd hp hn, fun x h => by cases h⟩
    | some x =>
      by_cases hm : placeR r ∈ out
      · rw [visitF_met hg hm]; exact ⟨fun p hp hn => absurd hp hn, fun _ _ => hm⟩
      · rw [visitF_new hg hm]
        have hp2 := hp.add (getA_rng hg) hm
        obtain ⟨c1, m1⟩ := visits_clo (visitF_clo A k) x.kids _ (by rw [List.length_append]; show _ < _ + 1 + k; omega) hp2
        obtain ⟨h3, l3, h4⟩ := visits_pl (k := k) x.kids _ hp2
        refine ⟨fun p hp hn q hq y hy => ?_, fun _ _ => by rw [h4]; simp⟩
        by_cases e : p = placeR r
        · subst e
          rw [kidsAt_of hg] at hq
          exact m1 q hq y hy
        · exact c1 p hp (fun h => (List.mem_append.1 h).elim hn (fun h => e (List.mem_singleton.1 h))) q hq y hy

inductive Rea (A : Ar) (P : Int → Prop) : Int → Prop
  | root {r : Int} {x : Node} : P r → getA A r = some x → Rea A P (placeR r)
  | kid {p q : Int} {x : Node} : Rea A P p → q ∈ kidsAt A p → getA A q = some x → Rea A P (placeR q)
theorem visits_rea {A : Ar} {P : Int → Prop} {k : Nat} (ih : ∀ (out : List Int) (r : Int), (∀ p ∈ out, Rea A P p) → (P r ∨ ∃ p, Rea A P p ∧ r ∈ kidsAt A p) → ∀ p ∈ visitF A k out r, Rea A P p) :
    ∀ (ks o : List Int), (∀ p ∈ o, Rea A P p) → (∀ r ∈ ks, P r ∨ ∃ p, Rea A P p ∧ r ∈ kidsAt A p) → ∀ p ∈ ks.foldl (visitF A k) o, Rea A P p := by
  intro ks
  induction ks with
  | nil => intro o ho _; exact ho
  | cons q ks ih2 => intro o ho hk; exact ih2 _ (ih o q ho (hk q (by simp))) (fun r hr => hk r (by simp [hr]))
theorem visitF_rea (A : Ar) (P : Int → Prop) : ∀ (k : Nat) (out : List Int) (r : Int), (∀ p ∈ out, Rea A P p) → (P r ∨ ∃ p, Rea A P p ∧ r ∈ kidsAt A p) → ∀ p ∈ visitF A k out r, Rea A P p
  | 0, out, r, ho, _ => by rw [visitF]; exact ho
  | k + 1, out, r, ho, hr => by
    cases hg : getA A r with
    | none => rw [visitF_no hg]; exact ho
    | some x =>
      by_cases hm : placeR r ∈ out
      · rw [visitF_met hg hm]; exact ho
      · rw [visitF_new hg hm]
        have hpr : Rea A P (placeR r) := hr.elim (fun h => .root h hg) (fun ⟨p, h1, h2⟩ => .kid h1 h2 hg)
        exact visits_rea (visitF_rea A P k) x.kids _ (fun p hp => (List.mem_append.1 hp).elim (ho p) (fun h => by rw [List.mem_singleton] at h; exact h ▸ hpr)) (fun q hq => .inr ⟨placeR r, hpr, by rw [kidsAt_of hg]; exact hq⟩)
theorem reachA_pl (A : Ar) (l : List Int) : Pl A (reachA A l) := (visits_pl l [] (Pl.nil A)).1
theorem reachA_iff {A : Ar} (hn : A.nodes.length ≤ 512) (l : List Int) (p : Int) : p ∈ reachA A l ↔ Rea A (· ∈ l) p := by
  constructor
  · exact visits_rea (visitF_rea A _ 513) l [] (fun p hp => by simp at hp) (fun r hr => .inl hr) p
  · obtain ⟨c, m⟩ := visits_clo (visitF_clo A 513) l [] (by simp; omega) (Pl.nil A)
    intro h
    induction h with
    | root h1 h2 => exact m _ h1 _ h2
    | kid h1 h2 h3 ih => exact c _ ih (by simp) _ h2 _ h3
theorem Rea.same {A : Ar} {P Q : Int → Prop} (h : ∀ x, P x → Q x) {p : Int} (hp : Rea A P p) : Rea A Q p := by
  induction hp with
  | root h1 h2 => exact .root (h _ h1) h2
  | kid _ h2 h3 ih => exact .kid ih h2 h3
theorem Rea.node {A : Ar} {P : Int → Prop} {p : Int} (hp : Rea A P p) : ∃ x, A.nodes[p.toNat]? = some x ∧ ¬ x.kind = 0 := by
  cases hp with
  | root _ h2 => exact ⟨_, getA_get h2⟩
  | kid _ _ h3 => exact ⟨_, getA_get h3⟩
theorem nodup_le : ∀ (l m : List Int), l.Nodup → (∀ x ∈ l, x ∈ m) → l.length ≤ m.length := by
  intro l
  induction l with
  | nil => intro m _ _; simp
  | cons a l ih =>
    intro m hn hs
    rw [List.nodup_cons] at hn
    have ha := hs a (by simp)
    have := ih (m.erase a) hn.2 (fun x hx => by
      have hne : x ≠ a := fun e => hn.1 (e ▸ hx)
      exact (List.mem_erase_of_ne hne).2 (hs x (by simp [hx])))
    rw [List.length_erase_of_mem ha] at this
    have := List.length_pos_of_mem ha
    simp only [List.length_cons]
    omega
theorem reachA_swap {A : Ar} (hn : A.nodes.length ≤ 512) (x y : Int) : (∀ p, p ∈ reachA A [x, y] ↔ p ∈ reachA A [y, x]) ∧ (reachA A [x, y]).length = (reachA A [y, x]).length := by
  have h : ∀ x y p, p ∈ reachA A [x, y] → p ∈ reachA A [y, x] := fun x y p hp => (reachA_iff hn _ p).2 (((reachA_iff hn _ p).1 hp).same (fun z hz => by simpa [or_comm] using hz))
  exact ⟨fun p => ⟨h x y p, h y x p⟩, Nat.le_antisymm (nodup_le _ _ (reachA_pl A _).nd (h x y)) (nodup_le _ _ (reachA_pl A _).nd (h y x))⟩
theorem reachA_two (A : Ar) (x y : Int) : ∃ l, reachA A [x, y] = reachA A [x] ++ l := (visitF_pl A 513 (reachA A [x]) y (reachA_pl A [x])).2
end Go.Proofs.Ytefakjhfcgjhgaa
