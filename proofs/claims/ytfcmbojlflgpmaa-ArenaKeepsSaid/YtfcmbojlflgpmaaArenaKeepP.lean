/-
  An arena that goes on, its references and what they had, in plain Lean.
-/
import Derived.Test.YtfcmbojlflgpmaaArenaFills
import Derived.Test.YtfcmbojlflgpmaaArenaReachQ
set_option linter.unusedVariables false
set_option linter.unusedSimpArgs false
namespace Go.Proofs.Ytfcmbojlflgpmaa
open Go Go.XL

def gN (m : Node) (g : Int) : Node := { m with gen := g }
theorem x0_gN {m : Node} {g : Int} (h : m.gen = 0) : x0 (gN m g) = m := by cases m; simp only [gN, x0]; simp only at h; rw [h]
/-- what a reference had is got, or it is stale -/
def Ent (n : Nat) (A : Ar) (r : Int) (m : Node) : Prop := ∃ p g, r = ofR p g ∧ isR p g = true ∧ 0 ≤ p ∧ p < n ∧ (m = bareN 0 ∧ g < genAt A p ∨ 1 ≤ m.kind ∧ m.gen = 0 ∧ getA A r = some (gN m g))
structure Kp (n i : Nat) (A : Ar) (refs : List Int) (nodes : List Node) (live : Nat) (last : Int) : Prop where
  ok : AOk A
  len : A.nodes.length = n
  live : live + A.free.length = n
  rl : refs.length = nodes.length
  rle : refs.length ≤ i
  nd : refs.Nodup
  gen : ∀ (p : Nat) (y : Node), A.nodes[p]? = some y → y.gen ≤ i
  ent : ∀ (k : Nat) (r : Int) (m : Node), refs[k]? = some r → nodes[k]? = some m → Ent n A r m
  lastR : rightR last = true
  lastU : U64 last
  u : ∀ r ∈ refs, U64 r
  nok : ∀ m ∈ nodes, m.ok

theorem getA_same {A B : Ar} {r : Int} (h : A.nodes[(placeR r).toNat]? = B.nodes[(placeR r).toNat]?) : getA A r = getA B r := by unfold getA; rw [h]
theorem stale {A : Ar} {p g : Int} (hi : isR p g = true) (hg : g < genAt A p) : getA A (ofR p g) = none := by
  have hp := placeR_of hi
  have h0 := (isR_iff p g).1 hi
  cases hy : A.nodes[p.toNat]? with
  | none => unfold getA; rw [hp, if_neg (by omega), hy]
  | some y =>
    rw [getA_at (x := y) (by omega) (by rw [hp]; exact hy), if_pos]
    right
    rw [genR_of hi, ← genAt_get hy]
    omega
theorem Kp.get {n i : Nat} {A : Ar} {refs : List Int} {nodes : List Node} {live : Nat} {last : Int} (h : Kp n i A refs nodes live last) {k : Nat} {r : Int} {m : Node} (hr : refs[k]? = some r) (hm : nodes[k]? = some m) :
    (m.kind = 0 ∧ getA A r = none) ∨ (¬ m.kind = 0 ∧ ∃ g, getA A r = some (gN m g) ∧ x0 (gN m g) = m) := by
  obtain ⟨p, g, rfl, hi, _, _, h1 | h1⟩ := h.ent k r m hr hm
  · left; exact ⟨by rw [h1.1]; rfl, stale hi h1.2⟩
  · right; exact ⟨by omega, g, h1.2.2, x0_gN h1.2.1⟩
theorem Kp.new {n : Nat} (h : 1 ≤ n ∧ n ≤ 512) : Kp n 0 (newA n) [] [] 0 0 :=
  ⟨newA_ok h, by simp [newA], by simp [newA, newFree_len], rfl, Nat.le_refl _, by simp, fun p y hy => by
    rw [(List.mem_replicate.1 (List.mem_of_getElem? hy)).2]; exact Int.le_refl _, fun k r m hr _ => by simp at hr, by decide, zu64, by simp, by simp⟩
theorem Kp.skip {n i : Nat} {A : Ar} {refs : List Int} {nodes : List Node} {live : Nat} {last : Int} (h : Kp n i A refs nodes live last) : Kp n (i + 1) A refs nodes live last :=
  ⟨h.ok, h.len, h.live, h.rl, by have := h.rle; omega, h.nd, fun p y hy => by have := h.gen p y hy; omega, h.ent, h.lastR, h.lastU, h.u, h.nok⟩
theorem makeR_right {A : Ar} (hA : AOk A) (h : 0 < A.free.length) : rightR (makeR A) = true ∧ U64 (makeR A) := by
  have hi := (isR_iff _ _).1 (make_isR hA h)
  unfold makeR ofR
  constructor
  · rw [rightR_iff]; omega
  · unfold U64; omega
theorem Kp.make {n i : Nat} {A : Ar} {refs : List Int} {nodes : List Node} {live : Nat} {last : Int} (h : Kp n i A refs nodes live last) {x : Node} (hm : mayMake A x) (hx0 : x.gen = 0) (hxo : x.ok) (hpos : 0 < A.free.length) : Kp n (i + 1) (makeA A x) (refs ++ [makeR A]) (nodes ++ [x]) (live + 1) (makeR A) := by
  have hin := lastAt_in h.ok hpos
  have hlen := h.len
  have hrr := makeR_right h.ok hpos
  have hisr := make_isR h.ok hpos
  obtain ⟨y, hy⟩ := getSome (l := A.nodes) (i := (lastAt A).toNat) (by omega)
  have hyk : y.kind = 0 := (h.ok.kind _ y hy).2 (by rw [Int.toNat_of_nonneg hin.1]; exact List.mem_of_getElem? (lastAt_get hpos))
  have hgen : ∀ p, 0 ≤ p → genAt (makeA A x) p = genAt A p := fun p hp => by
    by_cases e : p = lastAt A
    · have : (makeA A x).nodes[p.toNat]? = some (madeN A x) := by rw [e]; simp only [makeA]; rw [List.getElem?_set_self (by omega)]
      rw [genAt_get this, e]; rfl
    · unfold genAt; simp only [makeA]; rw [List.getD_eq_getElem?_getD, List.getElem?_set_ne (by omega), List.getD_eq_getElem?_getD]
  have hold : ∀ r m, Ent n A r m → Ent n (makeA A x) r m := by
    rintro r m ⟨p, g, rfl, hi, h1, h2, h3⟩
    refine ⟨p, g, rfl, hi, h1, h2, h3.imp (fun h3 => ⟨h3.1, by rw [hgen p h1]; exact h3.2⟩) (fun h3 => ⟨h3.1, h3.2.1, ?_⟩)⟩
    rw [← h3.2.2]
    refine getA_same ?_
    rw [placeR_of hi]
    have hne : ¬ p = lastAt A := fun e => by
      have := (getA_get h3.2.2).1
      rw [placeR_of hi, e, hy] at this
      cases this
      have : m.kind = 0 := hyk
      omega
    simp only [makeA]
    rw [List.getElem?_set_ne (by omega)]
  have hnew : makeR A ∉ refs := fun hmem => by
    obtain ⟨k, hk⟩ := List.getElem?_of_mem hmem
    obtain ⟨m, hm2⟩ := getSome (l := nodes) (i := k) (by have := lt_of_get hk; have := h.rl; omega)
    obtain ⟨p, g, e, hi, h1, h2, h3⟩ := h.ent k _ m hk hm2
    have ep : lastAt A = p := by have := congrArg placeR e; rwa [makeR, placeR_of hisr, placeR_of hi] at this
    have eg : genAt A (lastAt A) = g := by have := congrArg genR e; rwa [makeR, genR_of hisr, genR_of hi] at this
    rcases h3 with h3 | h3
    · rw [ep] at eg; omega
    · have := (getA_get h3.2.2).1
      rw [makeR, placeR_of hisr, hy] at this
      cases this
      have : m.kind = 0 := hyk
      omega
  refine ⟨make_ok hm hpos, by simp [makeA, hlen], by simp only [makeA, List.length_take]; have := h.live; omega, by simp [h.rl], by have := h.rle; simp; omega, ?_, ?_, ?_, hrr.1, hrr.2, ?_, ?_⟩
  · rw [List.nodup_append]
    exact ⟨h.nd, by simp, fun a ha b hb e => by rw [List.mem_singleton] at hb; subst hb; subst e; exact hnew ha⟩
  · intro p z hz
    rcases make_get h.ok hpos hz with ⟨_, e⟩ | ⟨_, hz⟩
    · rw [e]; have := h.gen _ _ hy; have e2 := genAt_get hy; show genAt A (lastAt A) ≤ _; omega
    · have := h.gen p z hz; omega
  · intro k r m hr hm2
    by_cases hk : k < refs.length
    · rw [List.getElem?_append_left hk] at hr
      rw [List.getElem?_append_left (by have := h.rl; omega)] at hm2
      exact hold r m (h.ent k r m hr hm2)
    · have hk2 := lt_of_get hr
      rw [List.length_append, List.length_singleton] at hk2
      obtain rfl : k = refs.length := by omega
      rw [List.getElem?_append_right (Nat.le_refl _), Nat.sub_self] at hr
      rw [h.rl, List.getElem?_append_right (Nat.le_refl _), Nat.sub_self] at hm2
      cases hr
      cases hm2
      exact ⟨lastAt A, genAt A (lastAt A), rfl, hisr, hin.1, by omega, .inr ⟨hm.2.1, hx0, get_made hm hpos⟩⟩
  · intro r hr; rcases List.mem_append.1 hr with hr | hr
    · exact h.u r hr
    · rw [List.mem_singleton] at hr; rw [hr]; exact hrr.2
  · intro m hm2; rcases List.mem_append.1 hm2 with hm2 | hm2
    · exact h.nok m hm2
    · rw [List.mem_singleton] at hm2; rw [hm2]; exact hxo
theorem Kp.drops {n i : Nat} {A : Ar} {refs : List Int} {nodes : List Node} {live : Nat} {last : Int} (h : Kp n i A refs nodes live last) {r : Int} {x : Node} (hg : getA A r = some x) : ∃ B, dropAll A [placeR r] = some B := by
  have hr := getA_rng hg
  have hx := getA_get hg
  rw [dropAll, dropStep_at hr hx.1, if_neg hx.2]
  exact ⟨_, rfl⟩
theorem Kp.drop {n i : Nat} {A B : Ar} {refs : List Int} {nodes : List Node} {live : Nat} {last : Int} (h : Kp n i A refs nodes live last) (hi40 : i ≤ 1000) {k : Nat} {r : Int} {x : Node} (hr : refs[k]? = some r) (hg : getA A r = some x) (hB : dropAll A [placeR r] = some B) :
    1 ≤ live ∧ Kp n (i + 1) B refs (nodes.set k (bareN 0)) (live - 1) last := by
  obtain ⟨m, hm⟩ := getSome (l := nodes) (i := k) (by have := lt_of_get hr; have := h.rl; omega)
  have hst := drop_one hB
  obtain ⟨hp0, hp1, y, hy, hyk, hBe⟩ := dropStep_inv hst
  have hxy := (getA_get hg).1
  rw [hy] at hxy
  have exy : y = x := Option.some.inj hxy
  subst exy
  have hgy : 0 ≤ y.gen := by have := (well_iff y).1 (h.ok.well y (List.mem_of_getElem? hy)); omega
  have hgi := h.gen _ y hy
  have hgm : (y.gen + 1) % 1048577 = y.gen + 1 := by omega
  rw [hgm] at hBe
  have hlen := h.len
  have hgB : ∀ p, 0 ≤ p → genAt A p ≤ genAt B p ∧ (p = placeR r → genAt B p = y.gen + 1) := fun p hp => by
    by_cases e : p = placeR r
    · have : B.nodes[p.toNat]? = some (bareN (y.gen + 1)) := by rw [hBe, e]; simp only []; rw [List.getElem?_set_self (by omega)]
      rw [genAt_get this, e, genAt_get hy]
      exact ⟨by show y.gen ≤ y.gen + 1; omega, fun _ => rfl⟩
    · refine ⟨?_, fun h => absurd h e⟩
      unfold genAt; rw [hBe]; simp only []; rw [List.getD_eq_getElem?_getD, List.getD_eq_getElem?_getD, List.getElem?_set_ne (by omega)]; exact Int.le_refl _
  have hok := dropStep_ok h.ok hst
  have hfree : B.free.length = A.free.length + 1 := by rw [hBe]; simp
  have hlive := h.live
  have hfit := hok.fit
  have hBl : B.nodes.length = n := by rw [hBe]; simp [hlen]
  refine ⟨by omega, hok, hBl, by omega, by rw [List.length_set]; exact h.rl, by have := h.rle; omega, h.nd, ?_, ?_, h.lastR, h.lastU, h.u, ?_⟩
  · intro p z hz
    rw [hBe] at hz
    simp only [List.getElem?_set] at hz
    split at hz
    · split at hz
      · cases hz; show y.gen + 1 ≤ _; omega
      · cases hz
    · have := h.gen p z hz; omega
  · intro k' r' m' hr' hm'
    by_cases e : k' = k
    · subst e
      rw [hr] at hr'
      cases hr'
      have hk := lt_of_get hm
      rw [List.getElem?_set_self hk] at hm'
      cases hm'
      obtain ⟨p, g, e1, hi, h1, h2, h3⟩ := h.ent _ r m hr hm
      have ep : placeR r = p := by rw [e1, placeR_of hi]
      rcases h3 with h3 | h3
      · rw [e1, stale hi h3.2] at hg; cases hg
      · have : y = gN m g := by have := h3.2.2; rw [hg] at this; cases this; rfl
        refine ⟨p, g, e1, hi, h1, h2, .inl ⟨rfl, ?_⟩⟩
        rw [(hgB p h1).2 ep.symm, this]
        show g < g + 1
        omega
    · rw [List.getElem?_set_ne (fun e2 => e e2.symm)] at hm'
      obtain ⟨p, g, e1, hi, h1, h2, h3⟩ := h.ent k' r' m' hr' hm'
      refine ⟨p, g, e1, hi, h1, h2, h3.imp (fun h3 => ⟨h3.1, Int.lt_of_lt_of_le h3.2 (hgB p h1).1⟩) (fun h3 => ⟨h3.1, h3.2.1, ?_⟩)⟩
      rw [← h3.2.2]
      symm
      refine getA_same ?_
      have hne : ¬ placeR r' = placeR r := fun ep => by
        obtain ⟨q, g2, f1, fi, _, _, f3⟩ := h.ent k r m hr hm
        rcases f3 with f3 | f3
        · rw [f1, stale fi f3.2] at hg; cases hg
        · have a1 := (getA_get f3.2.2).1
          have a2 := (getA_get h3.2.2).1
          rw [ep, a1] at a2
          have ge : g2 = g := by
            have := Option.some.inj a2
            have := congrArg Node.gen this
            exact this
          have : placeR r' = p := by rw [e1, placeR_of hi]
          have : placeR r = q := by rw [f1, placeR_of fi]
          have hrr : r' = r := by rw [e1, f1, ge]; congr 1; omega
          rw [hrr] at hr'
          have := (List.getElem?_inj (lt_of_get hr') h.nd).1 (hr'.trans hr.symm)
          exact e this
      rw [hBe]
      simp only []
      have : 0 ≤ placeR r' := by rw [e1, placeR_of hi]; exact h1
      rw [List.getElem?_set_ne (by omega)]
  · intro z hz
    rcases List.mem_or_eq_of_mem_set hz with hz | e
    · exact h.nok z hz
    · rw [e]; exact bareN_ok z64
end Go.Proofs.Ytfcmbojlflgpmaa
