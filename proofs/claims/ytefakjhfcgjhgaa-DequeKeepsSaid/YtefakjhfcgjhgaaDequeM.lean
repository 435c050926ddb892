/-
  Rows that are made of rows, in plain Lean.
-/
import Derived.Test.YtefakjhfcgjhgaaDequeQ
set_option linter.unusedVariables false
set_option linter.unusedSimpArgs false
namespace Go.Proofs.Ytefakjhfcgjhgaa
open Go Go.XL

def szW (A : Ar) (a b : Int) : Int := IntKind.i64.wrap (IntKind.i64.wrap (1 + sizeA A a) + sizeA A b)
def wN (A : Ar) (v a b : Int) : Node := rNode 0 v (szW A a b) a b
theorem wN_may {A : Ar} {v a b : Int} (hA : AOk A) (h1 : rightR a = true) (h2 : rightR b = true) : mayMake A (wN A v a b) := by
  refine ⟨hA, (by decide : (1 : Int) ≤ 5), (by decide : (5 : Int) ≤ 100), ?_⟩
  have h3 : rightR 0 = true := (rightR_iff 0).2 (.inl rfl)
  rw [well_iff]
  refine ⟨by simp [x0, wN, rNode], ?_⟩
  simp [x0, wN, rNode, Node.kids, h1, h2, h3]
/-- s' comes from s; what is free then was free -/
structure Gr (n : Nat) (s s' : St) : Prop where
  gs : Gs n s s'
  fr : Fr s.1 s'.1
theorem Gr.refl {s : St} (h : AOk s.1) : Gr 0 s s := ⟨Gs.refl h, fun _ h => h⟩
theorem Gr.mono {n m : Nat} {s s' : St} (h : Gr n s s') (hn : n ≤ m) : Gr m s s' := ⟨h.gs.mono hn, h.fr⟩
theorem Gr.trans {n m : Nat} {a b c : St} (h : Gr n a b) (k : Gr m b c) : Gr (n + m) a c := ⟨h.gs.trans k.gs, fun p hp => h.fr p (k.fr p hp)⟩
theorem Gr.made {s s' : St} {v a b r : Int} (h : MkX s (wN s.1 v a b) s' r) (hA : AOk s.1) (hr : s.2 = 0 → rightR a = true ∧ rightR b = true) : Gr 1 s s' :=
  ⟨h.gs hA (fun h0 => wN_may hA (hr h0).1 (hr h0).2), h.fr⟩
section
variable {A0 : Ar} {s s1 s2 : St} {v a b r r1 r2 r3 : Int} {V L R P Q P1 P2 : List Int}
theorem mk_isR (hm : MkX s (wN s.1 v a b) s1 r) (hA : AOk s.1) (h0 : s1.2 = 0) (ha : IsR s.1 a L P) (hb : IsR s.1 b R Q) (hd : ∀ p ∈ P, ¬ p ∈ Q) (hl : L.length + R.length ≤ 1000000) :
    IsR s1.1 r (L ++ v :: R) (placeR r :: (P ++ Q)) ∧ placeR r ∈ s.1.free ∧ ¬ placeR r ∈ s1.1.free := by
  obtain ⟨h1, hmay, hf, hg, hE⟩ := hm.get h0
  obtain ⟨hp1, hp2⟩ := hm.place h0
  refine ⟨.node (g := genAt s.1 (lastAt s.1)) (a := a) (b := b) ?_ (ha.ext hE) (hb.ext hE) ?_, hp1, hp2⟩
  · rw [hg]
    have hz : szW s.1 a b = (L.length : Int) + R.length + 1 := by
      unfold szW
      rw [ha.size, hb.size]
      have e1 : IntKind.i64.wrap (1 + (L.length : Int)) = 1 + L.length := wrap_i64 (by omega)
      have e2 : IntKind.i64.wrap (1 + (L.length : Int) + R.length) = 1 + L.length + R.length := wrap_i64 (by omega)
      rw [e1, e2]; omega
    simp only [wN, rNode, hz]
  · refine List.nodup_cons.2 ⟨fun hin => (List.mem_append.1 hin).elim (fun h => ha.used hA _ h hp1) (fun h => hb.used hA _ h hp1), List.nodup_append.2 ⟨ha.nodup, hb.nodup, fun p hp q hq e => hd p hp (e ▸ hq)⟩⟩
/-- a row that was made of places, and of new ones -/
def Wv (s s' : St) (r : Int) (V P : List Int) : Prop := ∃ M, IsR s'.1 r V M ∧ ∀ p ∈ M, p ∈ P ∨ p ∈ s.1.free ∧ ¬ p ∈ s'.1.free
theorem Wv.right (h : Wv s s1 r V P) : rightR r = true := by obtain ⟨M, h, _⟩ := h; exact h.right
theorem merge_l {x : Node} (hA0 : AOk A0) (hE : Ext A0 s.1) (hfr : Fr A0 s.1) (h1 : IsR A0 x.k0 L P1) (h2 : IsR A0 x.k1 R P2) (hn : (placeR a :: (P1 ++ P2)).Nodup) (hd : ∀ p ∈ placeR a :: (P1 ++ P2), ¬ p ∈ Q) (hl : L.length + R.length + V.length ≤ 100000)
    (hg : Gr (R.length + V.length) s s1) (hi : s1.2 = 0 → Wv s s1 r1 (R ++ V) (P2 ++ Q)) (hm : MkX s1 (wN s1.1 x.v x.k0 r1) s2 r3) :
    Gr ((L ++ x.v :: R).length + V.length) s s2 ∧ (s2.2 = 0 → Wv s s2 r3 ((L ++ x.v :: R) ++ V) ((placeR a :: (P1 ++ P2)) ++ Q)) := by
  have h1' := h1.ext (hE.trans hg.gs.ext)
  have g1 := Gr.made hm hg.gs.ok (fun h => ⟨h1'.right, (hi h).right⟩)
  refine ⟨(hg.trans g1).mono (by simp only [List.length_append, List.length_cons]; omega), fun h => ?_⟩
  obtain ⟨M, hM, hMp⟩ := hi (g1.gs.back h)
  obtain ⟨hn1, hn2⟩ := List.nodup_cons.1 hn
  obtain ⟨_, _, hPP⟩ := List.nodup_append.1 hn2
  have hdM : ∀ p ∈ P1, ¬ p ∈ M := fun p hp hpM => by
    rcases hMp p hpM with h | ⟨h, _⟩
    · rcases List.mem_append.1 h with h | h
      · exact hPP p hp p h rfl
      · exact hd p (by simp [hp]) h
    · exact h1.used hA0 p hp (hfr p h)
  obtain ⟨k1, k2, k3⟩ := mk_isR hm hg.gs.ok h h1' hM hdM (by simp only [List.length_append]; omega)
  refine ⟨_, by rw [List.append_assoc, List.cons_append]; exact k1, fun p hp => ?_⟩
  rcases List.mem_cons.1 hp with rfl | hp
  · exact .inr ⟨hg.fr _ k2, k3⟩
  · rcases List.mem_append.1 hp with hp | hp
    · exact .inl (by simp [hp])
    · rcases hMp p hp with h | ⟨h, h2⟩
      · rcases List.mem_append.1 h with h | h
        · exact .inl (by simp [h])
        · exact .inl (by simp [h])
      · exact .inr ⟨h, fun e => h2 (g1.fr _ e)⟩
theorem merge_r {x : Node} (hA0 : AOk A0) (hE : Ext A0 s.1) (hfr : Fr A0 s.1) (h1 : IsR A0 x.k0 L P1) (h2 : IsR A0 x.k1 R P2) (hn : (placeR b :: (P1 ++ P2)).Nodup) (hd : ∀ p ∈ Q, ¬ p ∈ placeR b :: (P1 ++ P2)) (hl : L.length + R.length + V.length ≤ 100000)
    (hg : Gr (V.length + L.length) s s1) (hi : s1.2 = 0 → Wv s s1 r1 (V ++ L) (Q ++ P1)) (hm : MkX s1 (wN s1.1 x.v r1 x.k1) s2 r3) :
    Gr (V.length + (L ++ x.v :: R).length) s s2 ∧ (s2.2 = 0 → Wv s s2 r3 (V ++ (L ++ x.v :: R)) (Q ++ (placeR b :: (P1 ++ P2)))) := by
  have h2' := h2.ext (hE.trans hg.gs.ext)
  have g1 := Gr.made hm hg.gs.ok (fun h => ⟨(hi h).right, h2'.right⟩)
  refine ⟨(hg.trans g1).mono (by simp only [List.length_append, List.length_cons]; omega), fun h => ?_⟩
  obtain ⟨M, hM, hMp⟩ := hi (g1.gs.back h)
  obtain ⟨hn1, hn2⟩ := List.nodup_cons.1 hn
  obtain ⟨_, _, hPP⟩ := List.nodup_append.1 hn2
  have hdM : ∀ p ∈ M, ¬ p ∈ P2 := fun p hpM hp => by
    rcases hMp p hpM with h | ⟨h, _⟩
    · rcases List.mem_append.1 h with h | h
      · exact hd p h (by simp [hp])
      · exact hPP p h p hp rfl
    · exact h2.used hA0 p hp (hfr p h)
  obtain ⟨k1, k2, k3⟩ := mk_isR hm hg.gs.ok h hM h2' hdM (by simp only [List.length_append]; omega)
  refine ⟨_, by rw [← List.append_assoc]; exact k1, fun p hp => ?_⟩
  rcases List.mem_cons.1 hp with rfl | hp
  · exact .inr ⟨hg.fr _ k2, k3⟩
  · rcases List.mem_append.1 hp with hp | hp
    · rcases hMp p hp with h | ⟨h, h2⟩
      · rcases List.mem_append.1 h with h | h
        · exact .inl (by simp [h])
        · exact .inl (by simp [h])
      · exact .inr ⟨h, fun e => h2 (g1.fr _ e)⟩
    · exact .inl (by simp [hp])
/-- two rows that share no node -/
def Wv2 (s s' : St) (r1 r2 : Int) (V1 V2 P : List Int) : Prop := ∃ M N, IsR s'.1 r1 V1 M ∧ IsR s'.1 r2 V2 N ∧ (∀ p ∈ M, ¬ p ∈ N) ∧ ∀ p ∈ M ++ N, p ∈ P ∨ p ∈ s.1.free ∧ ¬ p ∈ s'.1.free
theorem Wv2.right1 {V1 V2 : List Int} (h : Wv2 s s1 r1 r2 V1 V2 P) : rightR r1 = true := by obtain ⟨M, N, h, _⟩ := h; exact h.right
theorem Wv2.right2 {V1 V2 : List Int} (h : Wv2 s s1 r1 r2 V1 V2 P) : rightR r2 = true := by obtain ⟨M, N, _, h, _⟩ := h; exact h.right
theorem cut_l {x : Node} {n : Nat} (hA0 : AOk A0) (hE : Ext A0 s.1) (hfr : Fr A0 s.1) (h1 : IsR A0 x.k0 L P1) (h2 : IsR A0 x.k1 R P2) (hn : (placeR a :: (P1 ++ P2)).Nodup) (hl : (L ++ x.v :: R).length ≤ 100000) (hle : n ≤ L.length)
    (hg : Gr L.length s s1) (hi : s1.2 = 0 → Wv2 s s1 r1 r2 (L.take n) (L.drop n) P1) (hm : MkX s1 (wN s1.1 x.v r2 x.k1) s2 r3) :
    Gr (L ++ x.v :: R).length s s2 ∧ (s2.2 = 0 → Wv2 s s2 r1 r3 ((L ++ x.v :: R).take n) ((L ++ x.v :: R).drop n) (placeR a :: (P1 ++ P2))) := by
  have h2' := h2.ext (hE.trans hg.gs.ext)
  have g1 := Gr.made hm hg.gs.ok (fun h => ⟨(hi h).right2, h2'.right⟩)
  refine ⟨(hg.trans g1).mono (by simp only [List.length_append, List.length_cons]; omega), fun h => ?_⟩
  obtain ⟨M, N, hM, hN, hMN, hp⟩ := hi (g1.gs.back h)
  obtain ⟨hn1, hn2⟩ := List.nodup_cons.1 hn
  obtain ⟨_, _, hPP⟩ := List.nodup_append.1 hn2
  have hP2 : ∀ p ∈ M ++ N, ¬ p ∈ P2 := fun p hpM hp2 => by
    rcases hp p hpM with h | ⟨h, _⟩
    · exact hPP p h p hp2 rfl
    · exact h2.used hA0 p hp2 (hfr p h)
  obtain ⟨k1, k2, k3⟩ := mk_isR hm hg.gs.ok h hN h2' (fun p hpN => hP2 p (List.mem_append_right _ hpN)) (by simp only [List.length_append, List.length_cons, List.length_drop] at hl ⊢; omega)
  rw [List.take_append_of_le_length hle, List.drop_append_of_le_length hle]
  refine ⟨M, _, hM.ext g1.gs.ext, k1, fun p hpM hin => ?_, fun p hin => ?_⟩
  · rcases List.mem_cons.1 hin with rfl | hin
    · exact hM.used hg.gs.ok _ hpM k2
    · rcases List.mem_append.1 hin with hin | hin
      · exact hMN p hpM hin
      · exact hP2 p (List.mem_append_left _ hpM) hin
  · have hold : p ∈ M ++ N → p ∈ placeR a :: (P1 ++ P2) ∨ p ∈ s.1.free ∧ ¬ p ∈ s2.1.free := fun h => (hp p h).imp (fun h => by simp [h]) (fun h => ⟨h.1, fun e => h.2 (g1.fr _ e)⟩)
    rcases List.mem_append.1 hin with hin | hin
    · exact hold (List.mem_append_left _ hin)
    · rcases List.mem_cons.1 hin with rfl | hin
      · exact .inr ⟨hg.fr _ k2, k3⟩
      · rcases List.mem_append.1 hin with hin | hin
        · exact hold (List.mem_append_right _ hin)
        · exact .inl (by simp [hin])
theorem cut_r {x : Node} {n m : Nat} (hA0 : AOk A0) (hE : Ext A0 s.1) (hfr : Fr A0 s.1) (h1 : IsR A0 x.k0 L P1) (h2 : IsR A0 x.k1 R P2) (hn : (placeR a :: (P1 ++ P2)).Nodup) (hl : (L ++ x.v :: R).length ≤ 100000) (hle : n = L.length + 1 + m)
    (hg : Gr R.length s s1) (hi : s1.2 = 0 → Wv2 s s1 r1 r2 (R.take m) (R.drop m) P2) (hm : MkX s1 (wN s1.1 x.v x.k0 r1) s2 r3) :
    Gr (L ++ x.v :: R).length s s2 ∧ (s2.2 = 0 → Wv2 s s2 r3 r2 ((L ++ x.v :: R).take n) ((L ++ x.v :: R).drop n) (placeR a :: (P1 ++ P2))) := by
  have h1' := h1.ext (hE.trans hg.gs.ext)
  have g1 := Gr.made hm hg.gs.ok (fun h => ⟨h1'.right, (hi h).right1⟩)
  refine ⟨(hg.trans g1).mono (by simp only [List.length_append, List.length_cons]; omega), fun h => ?_⟩
  obtain ⟨M, N, hM, hN, hMN, hp⟩ := hi (g1.gs.back h)
  obtain ⟨hn1, hn2⟩ := List.nodup_cons.1 hn
  obtain ⟨_, _, hPP⟩ := List.nodup_append.1 hn2
  have hP1 : ∀ p ∈ M ++ N, ¬ p ∈ P1 := fun p hpM hp1 => by
    rcases hp p hpM with h | ⟨h, _⟩
    · exact hPP p hp1 p h rfl
    · exact h1.used hA0 p hp1 (hfr p h)
  obtain ⟨k1, k2, k3⟩ := mk_isR hm hg.gs.ok h h1' hM (fun p hp1 hpM => hP1 p (List.mem_append_left _ hpM) hp1) (by simp only [List.length_append, List.length_cons, List.length_take] at hl ⊢; omega)
  have et : (L ++ x.v :: R).take n = L ++ x.v :: R.take m := by
    rw [hle, show L ++ x.v :: R = (L ++ [x.v]) ++ R by simp, show L.length + 1 + m = (L ++ [x.v]).length + m by simp, List.take_length_add_append]; simp
  have ed : (L ++ x.v :: R).drop n = R.drop m := by
    rw [hle, show L ++ x.v :: R = (L ++ [x.v]) ++ R by simp, show L.length + 1 + m = (L ++ [x.v]).length + m by simp, List.drop_length_add_append]
  rw [et, ed]
  refine ⟨_, N, k1, hN.ext g1.gs.ext, fun p hin hpN => ?_, fun p hin => ?_⟩
  · rcases List.mem_cons.1 hin with rfl | hin
    · exact hN.used hg.gs.ok _ hpN k2
    · rcases List.mem_append.1 hin with hin | hin
      · exact hP1 p (List.mem_append_right _ hpN) hin
      · exact hMN p hin hpN
  · have hold : p ∈ M ++ N → p ∈ placeR a :: (P1 ++ P2) ∨ p ∈ s.1.free ∧ ¬ p ∈ s2.1.free := fun h => (hp p h).imp (fun h => by simp [h]) (fun h => ⟨h.1, fun e => h.2 (g1.fr _ e)⟩)
    rcases List.mem_append.1 hin with hin | hin
    · rcases List.mem_cons.1 hin with rfl | hin
      · exact .inr ⟨hg.fr _ k2, k3⟩
      · rcases List.mem_append.1 hin with hin | hin
        · exact .inl (by simp [hin])
        · exact hold (List.mem_append_left _ hin)
    · exact hold (List.mem_append_right _ hin)
end
end Go.Proofs.Ytefakjhfcgjhgaa
