/-
  deque.Push, Pop, Concat, Cut, walked.
-/
import Derived.Test.YtefakjhfcgjhgaaWeaverC
import Derived.Test.YtefakjhfcgjhgaaArenaReachQ
set_option linter.unusedVariables false
set_option linter.unusedSimpArgs false
namespace Go.Proofs.Ytefakjhfcgjhgaa
open Go Go.XL

/-! ### what is reached from rows -/
theorem IsR.root {A : Ar} {r : Int} {V P : List Int} {x : Node} (h : IsR A r V P) (hx : getA A r = some x) : placeR r ∈ P := by
  cases h with
  | nil => rw [getA_00] at hx; cases hx
  | node => simp
theorem IsR.closed {A : Ar} {r : Int} {V P : List Int} (h : IsR A r V P) : ∀ p ∈ P, ∀ q ∈ kidsAt A p, ∀ x, getA A q = some x → placeR q ∈ P := by
  induction h with
  | nil => intro p hp; cases hp
  | node h1 h2 h3 h4 ih1 ih2 =>
    intro p hp q hq x hx
    rcases List.mem_cons.1 hp with rfl | hp
    · rw [kidsAt_of h1] at hq
      simp only [rNode, Node.kids, List.mem_cons, List.not_mem_nil, or_false] at hq
      have h0 : q = 0 → False := fun e => by rw [e, getA_00] at hx; cases hx
      rcases hq with rfl | rfl | e | e | e | e | e | e | e
      · have := h2.root hx; simp [this]
      · have := h3.root hx; simp [this]
      all_goals exact (h0 e).elim
    · rcases List.mem_append.1 hp with hp | hp
      · have := ih1 p hp q hq x hx; simp [this]
      · have := ih2 p hp q hq x hx; simp [this]
theorem IsR.rea {A : Ar} {r : Int} {V P : List Int} (h : IsR A r V P) (Q : Int → Prop) : (∀ x, getA A r = some x → Rea A Q (placeR r)) → ∀ p ∈ P, Rea A Q p := by
  induction h with
  | nil => intro _ p hp; cases hp
  | node h1 h2 h3 h4 ih1 ih2 =>
    intro hr p hp
    have hroot := hr _ h1
    rcases List.mem_cons.1 hp with rfl | hp
    · exact hroot
    · rcases List.mem_append.1 hp with hp | hp
      · exact ih1 (fun x hx => .kid hroot (by rw [kidsAt_of h1]; simp [rNode, Node.kids]) hx) p hp
      · exact ih2 (fun x hx => .kid hroot (by rw [kidsAt_of h1]; simp [rNode, Node.kids]) hx) p hp
theorem reach_one {A : Ar} {r : Int} {V P : List Int} (hA : AOk A) (h : IsR A r V P) : (reachA A [r]).length = P.length := by
  have hm : ∀ p, p ∈ reachA A [r] ↔ p ∈ P := fun p => by
    rw [reachA_iff hA.most]
    constructor
    · intro hp
      induction hp with
      | root h1 h2 => rw [List.mem_singleton] at h1; subst h1; exact h.root h2
      | kid _ h2 h3 ih => exact h.closed _ ih _ h2 _ h3
    · exact h.rea _ (fun x hx => .root (List.mem_singleton.2 rfl) hx) p
  exact Nat.le_antisymm (nodup_le _ _ (reachA_pl A _).nd (fun p => (hm p).1)) (nodup_le _ _ h.nodup (fun p => (hm p).2))
theorem reach_two {A : Ar} {a b : Int} {V P U Q : List Int} (hA : AOk A) (h : IsR A a V P) (k : IsR A b U Q) : ((∀ p ∈ P, ¬ p ∈ Q) → (reachA A [a, b]).length = P.length + Q.length) ∧ ((∃ p ∈ P, p ∈ Q) → (reachA A [a, b]).length < P.length + Q.length) := by
  have hm : ∀ p, p ∈ reachA A [a, b] ↔ p ∈ P ∨ p ∈ Q := fun p => by
    rw [reachA_iff hA.most]
    constructor
    · intro hp
      induction hp with
      | root h1 h2 =>
        rcases List.mem_cons.1 h1 with rfl | h1
        · exact .inl (h.root h2)
        · rw [List.mem_singleton] at h1; subst h1; exact .inr (k.root h2)
      | kid _ h2 h3 ih => exact ih.imp (fun ih => h.closed _ ih _ h2 _ h3) (fun ih => k.closed _ ih _ h2 _ h3)
    · rintro (hp | hp)
      · exact h.rea _ (fun x hx => .root (by simp) hx) p hp
      · exact k.rea _ (fun x hx => .root (by simp) hx) p hp
  have hle : (reachA A [a, b]).length ≤ (P ++ Q).length := nodup_le _ _ (reachA_pl A _).nd (fun p hp => List.mem_append.2 ((hm p).1 hp))
  rw [List.length_append] at hle
  constructor
  · intro hd
    refine Nat.le_antisymm hle ?_
    rw [← List.length_append]
    exact nodup_le _ _ (List.nodup_append.2 ⟨h.nodup, k.nodup, fun p hp q hq e => hd p hp (e ▸ hq)⟩) (fun p hp => (hm p).2 (List.mem_append.1 hp))
  · rintro ⟨z, hz, hz2⟩
    have : (reachA A [a, b]).length ≤ (P ++ Q.erase z).length := nodup_le _ _ (reachA_pl A _).nd (fun p hp => by
      rw [List.mem_append]
      rcases (hm p).1 hp with h | h
      · exact .inl h
      · by_cases e : p = z
        · subst e; exact .inl hz
        · exact .inr ((List.mem_erase_of_ne e).2 h))
    rw [List.length_append, List.length_erase_of_mem hz2] at this
    have := List.length_pos_of_mem hz2
    omega
theorem isRow_len {A : Ar} {r : Int} {V P : List Int} (h : isRow A r) (hV : IsR A r V P) : V.length ≤ 200 := by
  obtain ⟨_, V', P', h1, h2⟩ := h
  rw [(h1.unique hV).1]; exact h2
theorem rowsL (A : Ar) (r : Int) : ∃ V P, isRow A r → IsR A r V P := by
  by_cases h : isRow A r
  · obtain ⟨_, V, P, hL, _⟩ := id h; exact ⟨V, P, fun _ => hL⟩
  · exact ⟨[], [], fun h' => absurd h' h⟩
theorem rows_1 {A : Ar} {r : Int} (h : allRows A [r] = true) : isRow A r := (isRowB_iff A r).1 (by rw [← allRows_1]; exact h)
theorem rows_1no {A : Ar} {r : Int} (h : allRows A [r] = false) : ¬ isRow A r := fun e => by rw [allRows_1, isRowB_yes e] at h; cases h
theorem wft_pure {p : Prop} {w : World} (h : p) : Ft (fun _ => False) (fun _ => p) w := ⟨fun _ h => h.elim, fun _ _ => h⟩
/-! ### the ends -/
def endC (back : Bool) : List Value := if back then [.func (.func 44) #[] #[], .func (.func 45) #[] #[], .func (.func 46) #[] #[]] else [.func (.func 47) #[] #[], .func (.func 48) #[] #[], .func (.func 49) #[] #[]]
theorem c_ends (back : Bool) (w : World) : FC Try.prog 31 [.bool back] w (Val (.agg (endC back).toArray) w) := by
  cases back
  ·
    refine FC.intro Try.func31 rfl Try.ntmps31 rfl ?_
    have S := Sub.refl w
    refine RC.seq ?_
    refine RC.region rfl ?_
    refine RL.alloc ze79 rfl rfl (fun b_2 w_2 e_2 z_2 hb_2 s_2 => ?_)
    have ge_2 := S.le e_2
    have S := S.trans s_2
    refine RL.nil (RC.back ?_)
    refine RC.seq ?_
    refine RC.seq ?_
    refine RC.region rfl ?_
    refine RL.ev (.move rfl) rfl rfl ?_
    refine RL.nil (RC.back ?_)
    refine RC.cond_f rfl ?_
    refine RC.skip (RC.back ?_)
    refine RC.seq ?_
    refine RC.region rfl ?_
    refine RL.ev (.buildS ze79 pl79 rfl rfl) rfl rfl ?_
    refine RL.store sh79 rfl rfl rfl hb_2 (by exact Nat.le_of_ble_eq_true rfl) (by rfl) rfl (fun w1 z1 hb_2 a1 => ?_)
    have S := S.upd a1 ge_2
    have hb_2 : Has w1 b_2 (endC false) _ := hb_2.now (by kernel_rfl)
    refine RL.nil (RC.back ?_)
    refine RC.done (rs := [.cell 2 79]) (vs := [_]) rfl rfl ⟨⟨_, rfl, .inr ⟨endC false, sh79, hb_2.row, rfl⟩⟩, trivial⟩ ?_
    -- end 1
    exact ⟨rfl, S⟩
  ·
    refine FC.intro Try.func31 rfl Try.ntmps31 rfl ?_
    have S := Sub.refl w
    refine RC.seq ?_
    refine RC.region rfl ?_
    refine RL.alloc ze79 rfl rfl (fun b_2 w_2 e_2 z_2 hb_2 s_2 => ?_)
    have ge_2 := S.le e_2
    have S := S.trans s_2
    refine RL.nil (RC.back ?_)
    refine RC.seq ?_
    refine RC.seq ?_
    refine RC.region rfl ?_
    refine RL.ev (.move rfl) rfl rfl ?_
    refine RL.nil (RC.back ?_)
    refine RC.cond_t rfl ?_
    refine RC.seq ?_
    refine RC.region rfl ?_
    refine RL.ev (.buildS ze79 pl79 rfl rfl) rfl rfl ?_
    refine RL.store sh79 rfl rfl rfl hb_2 (by exact Nat.le_of_ble_eq_true rfl) (by rfl) rfl (fun w1 z1 hb_2 a1 => ?_)
    have S := S.upd a1 ge_2
    have hb_2 : Has w1 b_2 (endC true) _ := hb_2.now (by kernel_rfl)
    refine RL.nil (RC.back ?_)
    refine RC.done (rs := [.cell 2 79]) (vs := [_]) rfl rfl ⟨⟨_, rfl, .inr ⟨endC true, sh79, hb_2.row, rfl⟩⟩, trivial⟩ ?_
    -- end 1
    exact ⟨rfl, S⟩
theorem c_end1 (bf : Nat) (A0 : Ar) (hA0 : AOk A0) (n : Nat) (a b : Int) (V U P Q : List Int) (s : St) (C : Nat → Prop) (w : World) (h1 : V.length + U.length ≤ n) (h2 : n ≤ 1000) (h3 : IsR A0 a V P) (h4 : IsR A0 b U Q) (h5 : ∀ p ∈ P, ¬ p ∈ Q) (h6 : Ext A0 s.1) (h7 : Fr A0 s.1) (h8 : AOk s.1) (h9 : U64 a) (h10 : U64 b) (hF : Ft C (Wo bf s C) w) :
    FC Try.prog 44 [.pointer (some ⟨bf, 0, none⟩), .int .u64 a, .int .u64 b] w (WoP bf (V.length + U.length) s C w fun s' v => ∃ r, v = .int .u64 r ∧ U64 r ∧ (s'.2 = 0 → Wv s s' r (V ++ U) (P ++ Q))) := by
  refine FC.intro Try.func44 rfl Try.ntmps44 rfl ?_
  refine RC.seq ?_
  refine RC.region rfl ?_
  refine RL.ev (.assign rfl) rfl rfl ?_
  refine RL.nil (RC.back ?_)
  refine RC.seq ?_
  refine RC.region rfl ?_
  refine RL.ev (.move rfl) rfl rfl ?_
  refine RL.ev (.move rfl) rfl rfl ?_
  refine RL.ev (.move rfl) rfl rfl ?_
  refine RL.call rfl ok38 (c_wmerge bf A0 hA0 n a b V U P Q s C w h1 h2 h3 h4 h5 h6 h7 h8 h9 h10 hF) rfl rfl ?_
  rintro _ w1 ⟨s1, C1, hg, ⟨r1, rfl, hu1, hi⟩, hF1, ag, up⟩
  refine RL.ev (.assign rfl) rfl rfl ?_
  refine RL.nil (RC.back ?_)
  refine RC.done (rs := [.tmp 6]) (vs := [_]) rfl rfl ⟨rfl, trivial⟩ ?_
  -- end 1
  exact ⟨s1, C1, hg, ⟨r1, rfl, hu1, hi⟩, hF1, ag, up⟩
theorem c_end4 (bf : Nat) (A0 : Ar) (hA0 : AOk A0) (n : Nat) (a b : Int) (V U P Q : List Int) (s : St) (C : Nat → Prop) (w : World) (h1 : U.length + V.length ≤ n) (h2 : n ≤ 1000) (h3 : IsR A0 a V P) (h4 : IsR A0 b U Q) (h5 : ∀ p ∈ Q, ¬ p ∈ P) (h6 : Ext A0 s.1) (h7 : Fr A0 s.1) (h8 : AOk s.1) (h9 : U64 a) (h10 : U64 b) (hF : Ft C (Wo bf s C) w) :
    FC Try.prog 47 [.pointer (some ⟨bf, 0, none⟩), .int .u64 a, .int .u64 b] w (WoP bf (U.length + V.length) s C w fun s' v => ∃ r, v = .int .u64 r ∧ U64 r ∧ (s'.2 = 0 → Wv s s' r (U ++ V) (Q ++ P))) := by
  refine FC.intro Try.func47 rfl Try.ntmps47 rfl ?_
  refine RC.seq ?_
  refine RC.region rfl ?_
  refine RL.ev (.assign rfl) rfl rfl ?_
  refine RL.nil (RC.back ?_)
  refine RC.seq ?_
  refine RC.region rfl ?_
  refine RL.ev (.move rfl) rfl rfl ?_
  refine RL.ev (.move rfl) rfl rfl ?_
  refine RL.ev (.move rfl) rfl rfl ?_
  refine RL.call rfl ok38 (c_wmerge bf A0 hA0 n b a U V Q P s C w h1 h2 h4 h3 h5 h6 h7 h8 h10 h9 hF) rfl rfl ?_
  rintro _ w1 ⟨s1, C1, hg, ⟨r1, rfl, hu1, hi⟩, hF1, ag, up⟩
  refine RL.ev (.assign rfl) rfl rfl ?_
  refine RL.nil (RC.back ?_)
  refine RC.done (rs := [.tmp 6]) (vs := [_]) rfl rfl ⟨rfl, trivial⟩ ?_
  -- end 1
  exact ⟨s1, C1, hg, ⟨r1, rfl, hu1, hi⟩, hF1, ag, up⟩
theorem c_end2 (z : Int) (hz : 0 ≤ z ∧ z ≤ 1000000) (w : World) : FC Try.prog 45 [.int .i64 z] w (Val (.int .i64 (z - 1)) w) := by
  refine FC.intro Try.func45 rfl Try.ntmps45 rfl ?_
  have S := Sub.refl w
  refine RC.seq ?_
  refine RC.region rfl ?_
  refine RL.ev (.assign rfl) rfl rfl ?_
  refine RL.nil (RC.back ?_)
  refine RC.seq ?_
  refine RC.region rfl ?_
  refine RL.ev (.move rfl) rfl rfl ?_
  refine RL.ev (.as (.bin rfl rfl rfl) (wi64 (y := z - 1) (by rfl) (by omega))) rfl rfl ?_
  refine RL.ev (.assign rfl) rfl rfl ?_
  refine RL.nil (RC.back ?_)
  refine RC.done (rs := [.tmp 2]) (vs := [_]) rfl rfl ⟨rfl, trivial⟩ ?_
  -- end 1
  exact ⟨rfl, S⟩
theorem c_end5 (z : Int) (w : World) : FC Try.prog 48 [.int .i64 z] w (Val (.int .i64 1) w) := by
  refine FC.intro Try.func48 rfl Try.ntmps48 rfl ?_
  have S := Sub.refl w
  refine RC.seq ?_
  refine RC.region rfl ?_
  refine RL.ev (.assign rfl) rfl rfl ?_
  refine RL.nil (RC.back ?_)
  refine RC.seq ?_
  refine RC.region rfl ?_
  refine RL.ev (.assign rfl) rfl rfl ?_
  refine RL.nil (RC.back ?_)
  refine RC.done (rs := [.tmp 2]) (vs := [_]) rfl rfl ⟨rfl, trivial⟩ ?_
  -- end 1
  exact ⟨rfl, S⟩
theorem c_end3 (x y : Int) (w : World) : FC Try.prog 46 [.int .u64 x, .int .u64 y] w (Val (.tuple #[.int .u64 x, .int .u64 y]) w) := by
  refine FC.intro Try.func46 rfl Try.ntmps46 rfl ?_
  have S := Sub.refl w
  refine RC.seq ?_
  refine RC.region rfl ?_
  refine RL.ev (.assign rfl) rfl rfl ?_
  refine RL.ev (.assign rfl) rfl rfl ?_
  refine RL.nil (RC.back ?_)
  refine RC.seq ?_
  refine RC.region rfl ?_
  refine RL.ev (.move rfl) rfl rfl ?_
  refine RL.ev (.move rfl) rfl rfl ?_
  refine RL.ev (.assign rfl) rfl rfl ?_
  refine RL.ev (.assign rfl) rfl rfl ?_
  refine RL.nil (RC.back ?_)
  refine RC.done (rs := [.tmp 4, .tmp 5]) (vs := [_, _]) rfl rfl ⟨rfl, rfl, trivial⟩ ?_
  -- end 1
  exact ⟨rfl, S⟩
theorem c_end6 (x y : Int) (w : World) : FC Try.prog 49 [.int .u64 x, .int .u64 y] w (Val (.tuple #[.int .u64 y, .int .u64 x]) w) := by
  refine FC.intro Try.func49 rfl Try.ntmps49 rfl ?_
  have S := Sub.refl w
  refine RC.seq ?_
  refine RC.region rfl ?_
  refine RL.ev (.assign rfl) rfl rfl ?_
  refine RL.ev (.assign rfl) rfl rfl ?_
  refine RL.nil (RC.back ?_)
  refine RC.seq ?_
  refine RC.region rfl ?_
  refine RL.ev (.move rfl) rfl rfl ?_
  refine RL.ev (.move rfl) rfl rfl ?_
  refine RL.ev (.assign rfl) rfl rfl ?_
  refine RL.ev (.assign rfl) rfl rfl ?_
  refine RL.nil (RC.back ?_)
  refine RC.done (rs := [.tmp 4, .tmp 5]) (vs := [_, _]) rfl rfl ⟨rfl, rfl, trivial⟩ ?_
  -- end 1
  exact ⟨rfl, S⟩
/-! ### Push -/
def pushL (V : List Int) (back : Bool) (v : Int) : List Int := if back then V ++ [v] else v :: V
def PushJ (A : Ar) (V : List Int) (back : Bool) (v : Int) (s' : St) (r' e : Int) : Prop := (200 ≤ V.length ∧ e = 5) ∨ (V.length < 200 ∧ e = 0 ∧ Gr (V.length + 2) (A, 0) s' ∧ (s'.2 = 0 → ∃ M, IsR s'.1 r' (pushL V back v) M))
theorem one_isR {A : Ar} {s1 : St} {v r1 : Int} {V P : List Int} {r : Int} (hA : AOk A) (hV : IsR A r V P) (hm : MkX (A, 0) (wN A v 0 0) s1 r1) : ∃ U Q, IsR s1.1 r1 U Q ∧ (s1.2 = 0 → U = [v]) ∧ U.length ≤ 1 ∧ (∀ p ∈ P, ¬ p ∈ Q) ∧ ∀ p ∈ Q, ¬ p ∈ P := by
  by_cases h0 : s1.2 = 0
  · obtain ⟨k1, k2, k3⟩ := mk_isR (s := (A, 0)) (L := []) (R := []) (P := []) (Q := []) hm hA h0 .nil .nil (by simp) (by simp)
    refine ⟨_, _, k1, fun _ => rfl, by simp, fun p hp hq => ?_, fun q hq hp => ?_⟩
    · have : p = placeR r1 := by simpa using hq
      subst this; exact hV.used hA _ hp k2
    · have : q = placeR r1 := by simpa using hq
      subst this; exact hV.used hA _ hp k2
  · have : r1 = 0 := by
      rcases hm with ⟨_, _, h⟩ | ⟨_, _, _, h, _⟩ | ⟨_, _, _, _, h⟩ | ⟨_, _, _, h⟩
      · exact h
      · rw [h] at h0; exact absurd rfl h0
      · exact h
      · exact h
    subst this
    exact ⟨[], [], .nil, fun h => absurd h h0, by simp, by simp, by simp⟩
set_option maxHeartbeats 1000000 in
theorem c_dpush1 (A : Ar) (r v : Int) (back : Bool) (hr : U64 r) (hv : I64 v) (V P : List Int) (hA : AOk A) (hV : IsR A r V P) (hl : V.length ≤ 200) (bf b5 b6 b7 : Nat) (C : Nat → Prop) (w : World) (hF : Ft C (Wo bf (A, 0) C) w)
    (m5 : Has w b5 [.int .u64 r] 28) (m6 : Has w b6 [.bool back] 4) (m7 : Has w b7 [.int .i64 v] 2) (n5 : b5 ≠ bf) (n6 : b6 ≠ bf) (n7 : b7 ≠ bf) :
    FC Try.prog 29 [.pointer (some ⟨bf, 0, none⟩), .pointer (some ⟨b5, 0, none⟩), .pointer (some ⟨b6, 0, none⟩), .pointer (some ⟨b7, 0, none⟩)] w (fun u w2 => ∃ s' r' e C', u = .tuple #[.int .u64 r', .int .i64 e] ∧ U64 r' ∧ Ft C' (Wo bf s' C') w2 ∧ Agr (· = bf) w w2 ∧ Up C w C' ∧ PushJ A V back v s' r' e) := by
  cases back
  ·
    refine FC.intro Try.func29 rfl Try.ntmps29 rfl ?_
    have G : Agr (· = bf) w w := Agr.refl _ _
    refine RC.seq ?_
    refine RC.region rfl ?_
    refine RL.ev (.assign rfl) rfl rfl ?_
    refine RL.ev (.assign rfl) rfl rfl ?_
    refine RL.nil (RC.back ?_)
    refine RC.seq ?_
    refine RC.seq ?_
    refine RC.region rfl ?_
    refine RL.ev (.move rfl) rfl rfl ?_
    refine RL.ev (.load1 sh28 rfl (m5.cell rfl)) rfl rfl ?_
    refine RL.call rfl ok30 (c_wget bf (A, 0) C r hr w hF) rfl rfl ?_
    rintro _ w1 ⟨rfl, s2⟩
    have G := G.trans s2.agr
    have hF := hF.sub s2
    have m5 := m5.sub s2
    have m6 := m6.sub s2
    have m7 := m7.sub s2
    refine RL.ev (.as (v' := .int .i64 (V.length : Int)) (.fieldV Try.underlying73 rfl sh2 rfl rfl) (by show Value.int .i64 (getN A r).s = _; rw [getN_s, hV.size])) rfl rfl ?_
    refine RL.ev (.bin rfl rfl rfl) rfl rfl ?_
    refine RL.nil (RC.back ?_)
    refine RC.cond_dec rfl (fun h3 => ?_) (fun h3 => ?_)
    ·
      have q := h3
      refine RC.seq ?_
      refine RC.region rfl ?_
      refine RL.ev (.assign rfl) rfl rfl ?_
      refine RL.ev (.assign rfl) rfl rfl ?_
      refine RL.nil (RC.back ?_)
      refine RC.done (rs := [.tmp 5, .tmp 6]) (vs := [_, _]) rfl rfl ⟨rfl, rfl, trivial⟩ ?_
      -- end 1
      exact ⟨(A, 0), 0, 5, C, rfl, zu0, hF, G, Up.refl _ _, .inl ⟨by omega, rfl⟩⟩
    ·
      have q := h3
      refine RC.skip (RC.back ?_)
      refine RC.seq ?_
      refine RC.drawD (fun k => k = bf) [7, 8] w1.heap.size 11 rfl rfl mxo (fun w4 s5 => ?_)
      have ltD_hF := fun k hk => (hF.ge k hk).2
      have ltD_b5 := m5.lt
      have ltD_b6 := m6.lt
      have ltD_b7 := m7.lt
      have szD := Nat.le_refl w1.heap.size
      have G := G.trans s5.agr
      have hF := hF.sub s5
      have m5 := m5.sub s5
      have m6 := m6.sub s5
      have m7 := m7.sub s5
      have szD := Nat.le_trans szD s5.size
      refine RD.take 0 rfl (by kernel_rfl) (by kernel_rfl) (by kernel_rfl) (fun w' s' => .load1 sh4 rfl ((m6.step s' (fun e => e.elim (fun e => n6 e) (fun e => Nat.not_le.2 ltD_b6 e))).cell rfl)) rfl rfl ?_
      refine RD.take 3 rfl (by kernel_rfl) (by kernel_rfl) (by kernel_rfl) (fun w' s' => .move rfl) rfl rfl ?_
      refine RD.take 4 rfl (by kernel_rfl) (by kernel_rfl) (by kernel_rfl) (fun w' s' => .load1 sh28 rfl ((m5.step s' (fun e => e.elim (fun e => n5 e) (fun e => Nat.not_le.2 ltD_b5 e))).cell rfl)) rfl rfl ?_
      refine RD.take 5 rfl (by kernel_rfl) (by kernel_rfl) (by kernel_rfl) (fun w' s' => .move rfl) rfl rfl ?_
      refine RD.take 6 rfl (by kernel_rfl) (by kernel_rfl) (by kernel_rfl) (fun w' s' => .load1 sh2 rfl ((m7.step s' (fun e => e.elim (fun e => n7 e) (fun e => Nat.not_le.2 ltD_b7 e))).cell rfl)) rfl rfl ?_
      refine RD.all [1] (by kernel_rfl) rfl (RDs.cons rfl ?_ (RDs.nil))
      refine RL.call rfl ok31 (c_ends false w4) rfl rfl ?_
      rintro _ w6 ⟨rfl, s7⟩
      have G := G.trans s7.agr
      have hF := hF.sub s7
      have m5 := m5.sub s7
      have m6 := m6.sub s7
      have m7 := m7.sub s7
      have szD := Nat.le_trans szD s7.size
      refine RD.back s7.agr ?_
      refine RD.take 2 rfl (by kernel_rfl) (by kernel_rfl) (by kernel_rfl) (fun w' s' => .fieldV Try.underlying79 rfl sh75 rfl rfl) rfl rfl ?_
      refine RD.all [7] (by kernel_rfl) rfl (RDs.cons rfl ?_ (RDs.nil))
      refine RL.call rfl ok32 (c_wmake bf (A, 0) C v 0 0 hv zu0 zu0 w6 hF) rfl rfl ?_
      rintro _ w8 ⟨s1, r1, C1, rfl, hm, hF1, ag, up⟩
      have up := up.le G.size
      have G := G.trans ag
      have szD := Nat.le_trans szD ag.size
      have hF := hF1
      obtain ⟨U, Q, hU, hU1, hUl, hPQ, hQP⟩ := one_isR hA hV hm
      have g1 := Gr.made (s := (A, 0)) hm hA (fun _ => ⟨(rightR_iff 0).2 (.inl rfl), (rightR_iff 0).2 (.inl rfl)⟩)
      refine RD.backW rfl (ag.mono fun k _ e => .inl e) ?_
      refine RD.all [8] (by kernel_rfl) rfl (RDs.cons rfl ?_ (RDs.nil))
      refine RL.callv rfl rfl (us := []) (cs := []) ok47 (c_end4 bf s1.1 g1.gs.ok 1000 r r1 V U P Q s1 C1 w8 (by omega) (by decide) (hV.ext g1.gs.ext) hU hQP (Ext.refl _) (fun _ h => h) g1.gs.ok hr hm.u64 hF) rfl rfl ?_
      rintro _ w10 ⟨s2, C2, hg, ⟨r2, rfl, hu2, hi⟩, hF2, ag2, up2⟩
      have up2 := up.trans (up2.le G.size)
      have G := G.trans ag2
      have szD := Nat.le_trans szD ag2.size
      have hF := hF2
      refine RD.backW rfl (ag2.mono fun k _ e => .inl e) ?_
      refine RD.take 9 rfl (by kernel_rfl) (by kernel_rfl) (by kernel_rfl) (fun w' s' => .assign rfl) rfl rfl ?_
      refine RD.take 10 rfl (by kernel_rfl) (by kernel_rfl) (by kernel_rfl) (fun w' s' => .assign rfl) rfl rfl ?_
      refine RD.done (by kernel_rfl) (RC.back ?_)
      refine RC.done (rs := [.tmp 5, .tmp 6]) (vs := [_, _]) rfl rfl ⟨rfl, rfl, trivial⟩ ?_
      -- end 2
      refine ⟨s2, r2, 0, C2, rfl, hu2, hF, G, up2, .inr ⟨by omega, rfl, (g1.trans hg).mono (by omega), fun h => ?_⟩⟩
      obtain ⟨M, hM, _⟩ := hi h
      rw [hU1 (hg.gs.back h)] at hM
      exact ⟨M, hM⟩
  ·
    refine FC.intro Try.func29 rfl Try.ntmps29 rfl ?_
    have G : Agr (· = bf) w w := Agr.refl _ _
    refine RC.seq ?_
    refine RC.region rfl ?_
    refine RL.ev (.assign rfl) rfl rfl ?_
    refine RL.ev (.assign rfl) rfl rfl ?_
    refine RL.nil (RC.back ?_)
    refine RC.seq ?_
    refine RC.seq ?_
    refine RC.region rfl ?_
    refine RL.ev (.move rfl) rfl rfl ?_
    refine RL.ev (.load1 sh28 rfl (m5.cell rfl)) rfl rfl ?_
    refine RL.call rfl ok30 (c_wget bf (A, 0) C r hr w hF) rfl rfl ?_
    rintro _ w1 ⟨rfl, s2⟩
    have G := G.trans s2.agr
    have hF := hF.sub s2
    have m5 := m5.sub s2
    have m6 := m6.sub s2
    have m7 := m7.sub s2
    refine RL.ev (.as (v' := .int .i64 (V.length : Int)) (.fieldV Try.underlying73 rfl sh2 rfl rfl) (by show Value.int .i64 (getN A r).s = _; rw [getN_s, hV.size])) rfl rfl ?_
    refine RL.ev (.bin rfl rfl rfl) rfl rfl ?_
    refine RL.nil (RC.back ?_)
    refine RC.cond_dec rfl (fun h3 => ?_) (fun h3 => ?_)
    ·
      have q := h3
      refine RC.seq ?_
      refine RC.region rfl ?_
      refine RL.ev (.assign rfl) rfl rfl ?_
      refine RL.ev (.assign rfl) rfl rfl ?_
      refine RL.nil (RC.back ?_)
      refine RC.done (rs := [.tmp 5, .tmp 6]) (vs := [_, _]) rfl rfl ⟨rfl, rfl, trivial⟩ ?_
      -- end 1
      exact ⟨(A, 0), 0, 5, C, rfl, zu0, hF, G, Up.refl _ _, .inl ⟨by omega, rfl⟩⟩
    ·
      have q := h3
      refine RC.skip (RC.back ?_)
      refine RC.seq ?_
      refine RC.drawD (fun k => k = bf) [7, 8] w1.heap.size 11 rfl rfl mxo (fun w4 s5 => ?_)
      have ltD_hF := fun k hk => (hF.ge k hk).2
      have ltD_b5 := m5.lt
      have ltD_b6 := m6.lt
      have ltD_b7 := m7.lt
      have szD := Nat.le_refl w1.heap.size
      have G := G.trans s5.agr
      have hF := hF.sub s5
      have m5 := m5.sub s5
      have m6 := m6.sub s5
      have m7 := m7.sub s5
      have szD := Nat.le_trans szD s5.size
      refine RD.take 0 rfl (by kernel_rfl) (by kernel_rfl) (by kernel_rfl) (fun w' s' => .load1 sh4 rfl ((m6.step s' (fun e => e.elim (fun e => n6 e) (fun e => Nat.not_le.2 ltD_b6 e))).cell rfl)) rfl rfl ?_
      refine RD.take 3 rfl (by kernel_rfl) (by kernel_rfl) (by kernel_rfl) (fun w' s' => .move rfl) rfl rfl ?_
      refine RD.take 4 rfl (by kernel_rfl) (by kernel_rfl) (by kernel_rfl) (fun w' s' => .load1 sh28 rfl ((m5.step s' (fun e => e.elim (fun e => n5 e) (fun e => Nat.not_le.2 ltD_b5 e))).cell rfl)) rfl rfl ?_
      refine RD.take 5 rfl (by kernel_rfl) (by kernel_rfl) (by kernel_rfl) (fun w' s' => .move rfl) rfl rfl ?_
      refine RD.take 6 rfl (by kernel_rfl) (by kernel_rfl) (by kernel_rfl) (fun w' s' => .load1 sh2 rfl ((m7.step s' (fun e => e.elim (fun e => n7 e) (fun e => Nat.not_le.2 ltD_b7 e))).cell rfl)) rfl rfl ?_
      refine RD.all [1] (by kernel_rfl) rfl (RDs.cons rfl ?_ (RDs.nil))
      refine RL.call rfl ok31 (c_ends true w4) rfl rfl ?_
      rintro _ w6 ⟨rfl, s7⟩
      have G := G.trans s7.agr
      have hF := hF.sub s7
      have m5 := m5.sub s7
      have m6 := m6.sub s7
      have m7 := m7.sub s7
      have szD := Nat.le_trans szD s7.size
      refine RD.back s7.agr ?_
      refine RD.take 2 rfl (by kernel_rfl) (by kernel_rfl) (by kernel_rfl) (fun w' s' => .fieldV Try.underlying79 rfl sh75 rfl rfl) rfl rfl ?_
      refine RD.all [7] (by kernel_rfl) rfl (RDs.cons rfl ?_ (RDs.nil))
      refine RL.call rfl ok32 (c_wmake bf (A, 0) C v 0 0 hv zu0 zu0 w6 hF) rfl rfl ?_
      rintro _ w8 ⟨s1, r1, C1, rfl, hm, hF1, ag, up⟩
      have up := up.le G.size
      have G := G.trans ag
      have szD := Nat.le_trans szD ag.size
      have hF := hF1
      obtain ⟨U, Q, hU, hU1, hUl, hPQ, hQP⟩ := one_isR hA hV hm
      have g1 := Gr.made (s := (A, 0)) hm hA (fun _ => ⟨(rightR_iff 0).2 (.inl rfl), (rightR_iff 0).2 (.inl rfl)⟩)
      refine RD.backW rfl (ag.mono fun k _ e => .inl e) ?_
      refine RD.all [8] (by kernel_rfl) rfl (RDs.cons rfl ?_ (RDs.nil))
      refine RL.callv rfl rfl (us := []) (cs := []) ok44 (c_end1 bf s1.1 g1.gs.ok 1000 r r1 V U P Q s1 C1 w8 (by omega) (by decide) (hV.ext g1.gs.ext) hU hPQ (Ext.refl _) (fun _ h => h) g1.gs.ok hr hm.u64 hF) rfl rfl ?_
      rintro _ w10 ⟨s2, C2, hg, ⟨r2, rfl, hu2, hi⟩, hF2, ag2, up2⟩
      have up2 := up.trans (up2.le G.size)
      have G := G.trans ag2
      have szD := Nat.le_trans szD ag2.size
      have hF := hF2
      refine RD.backW rfl (ag2.mono fun k _ e => .inl e) ?_
      refine RD.take 9 rfl (by kernel_rfl) (by kernel_rfl) (by kernel_rfl) (fun w' s' => .assign rfl) rfl rfl ?_
      refine RD.take 10 rfl (by kernel_rfl) (by kernel_rfl) (by kernel_rfl) (fun w' s' => .assign rfl) rfl rfl ?_
      refine RD.done (by kernel_rfl) (RC.back ?_)
      refine RC.done (rs := [.tmp 5, .tmp 6]) (vs := [_, _]) rfl rfl ⟨rfl, rfl, trivial⟩ ?_
      -- end 2
      refine ⟨s2, r2, 0, C2, rfl, hu2, hF, G, up2, .inr ⟨by omega, rfl, (g1.trans hg).mono (by omega), fun h => ?_⟩⟩
      obtain ⟨M, hM, _⟩ := hi h
      rw [hU1 (hg.gs.back h)] at hM
      exact ⟨M, hM⟩
def PushP (A : Ar) (r : Int) (back : Bool) (v : Int) (B : Ar) (r' e : Int) : Prop :=
  (¬ isRow A r → e = 1) ∧ (¬ e = 0 → B = ar0 ∧ r' = 0) ∧ ∀ V P, isRow A r → IsR A r V P → (200 ≤ V.length ∧ e = 5) ∨ (V.length < 200 ∧ e = 2 ∧ A.free.length < V.length + 2) ∨ (V.length < 200 ∧ e = 0 ∧ Ext A B ∧ AOk B ∧ A.free.length ≤ B.free.length + (V.length + 2) ∧ ∃ M, IsR B r' (pushL V back v) M)
theorem push_form {A B : Ar} {r v r' e : Int} {back : Bool} {w w' : World} {V P : List Int} (hm : isRow A r → IsR A r V P) (h : CallR A [r] (fun s' r' e _ => PushJ A V back v s' r' e) (fun _ => False) w w' B r' e) : PushP A r back v B r' e := by
  rcases h with ⟨h1, h2, h3, h4, _⟩ | ⟨h1, s', r0, e0, hJ, he, h3, h4⟩
  · exact ⟨fun _ => h2, fun _ => ⟨h3, h4⟩, fun V' P' h => absurd h (rows_1no h1)⟩
  · have hmap := rows_1 h1
    refine ⟨fun h => absurd hmap h, h3, fun V' P' _ hV' => ?_⟩
    obtain ⟨rfl, rfl⟩ := hV'.unique (hm hmap)
    rcases hJ.now with ⟨hb, h5⟩ | ⟨hb, h5, hg, hi⟩
    · exact .inl ⟨hb, by rw [he, h5]; rfl⟩
    · rw [h5, if_pos rfl] at he
      by_cases h0 : s'.2 = 0
      · obtain ⟨rfl, rfl⟩ := h4 (by rw [he, h0])
        exact .inr (.inr ⟨hb, by rw [he, h0], hg.gs.ext, hg.gs.ok, hg.gs.free, hi h0⟩)
      · have := hg.gs.full rfl h0
        exact .inr (.inl ⟨hb, by rw [he, this.1], this.2⟩)
theorem c_dpush (A : Ar) (na fa : Option Addr) (nc fc : Nat) (hnc : A.nodes.length ≤ nc) (hfc : A.free.length ≤ fc) (r : Int) (back : Bool) (v : Int) (hr : U64 r) (hv : I64 v) (M : Nat → Prop) (w : World) (hA : Ft M (fun u => ArR u na fa A) w) :
    FC Try.prog 11 [arV na fa nc fc A, .int .u64 r, .bool back, .int .i64 v] w (fun u w' => Sub w w' ∧ ArW M w w' (PushP A r back v) u) := by
  obtain ⟨V, P, hm⟩ := rowsL A r
  refine FC.intro Try.func11 rfl Try.ntmps11 rfl ?_
  have S := Sub.refl w
  refine RC.seq ?_
  refine RC.region rfl ?_
  refine RL.box rfl rfl rfl (fun b_4 w_4 e_4 z_4 hb_4 s_4 => ?_)
  have ge_4 := S.le e_4
  have d_hA_b_4 := hA.neNew e_4
  have S := S.trans s_4
  have hA := hA.sub s_4
  have hb_4 : Has w_4 b_4 ([.slice na A.nodes.length nc, .slice fa A.free.length fc]) _ := hb_4
  refine RL.box rfl rfl rfl (fun b_5 w_5 e_5 z_5 hb_5 s_5 => ?_)
  have ge_5 := S.le e_5
  have n_4__5 := hb_4.ne e_5
  have d_hA_b_5 := hA.neNew e_5
  have S := S.trans s_5
  have hA := hA.sub s_5
  have hb_4 := hb_4.sub s_5
  refine RL.box rfl rfl rfl (fun b_6 w_6 e_6 z_6 hb_6 s_6 => ?_)
  have ge_6 := S.le e_6
  have n_4__6 := hb_4.ne e_6
  have n_5__6 := hb_5.ne e_6
  have d_hA_b_6 := hA.neNew e_6
  have S := S.trans s_6
  have hA := hA.sub s_6
  have hb_4 := hb_4.sub s_6
  have hb_5 := hb_5.sub s_6
  refine RL.box rfl rfl rfl (fun b_7 w_7 e_7 z_7 hb_7 s_7 => ?_)
  have ge_7 := S.le e_7
  have n_4__7 := hb_4.ne e_7
  have n_5__7 := hb_5.ne e_7
  have n_6__7 := hb_6.ne e_7
  have d_hA_b_7 := hA.neNew e_7
  have S := S.trans s_7
  have hA := hA.sub s_7
  have hb_4 := hb_4.sub s_7
  have hb_5 := hb_5.sub s_7
  have hb_6 := hb_6.sub s_7
  refine RL.alloc ze26 rfl rfl (fun b_8 w_8 e_8 z_8 hb_8 s_8 => ?_)
  have ge_8 := S.le e_8
  have n_4__8 := hb_4.ne e_8
  have n_5__8 := hb_5.ne e_8
  have n_6__8 := hb_6.ne e_8
  have n_7__8 := hb_7.ne e_8
  have d_hA_b_8 := hA.neNew e_8
  have S := S.trans s_8
  have hA := hA.sub s_8
  have hb_4 := hb_4.sub s_8
  have hb_5 := hb_5.sub s_8
  have hb_6 := hb_6.sub s_8
  have hb_7 := hb_7.sub s_8
  refine RL.ev (.assign rfl) rfl rfl ?_
  refine RL.ev (.assign rfl) rfl rfl ?_
  refine RL.nil (RC.back ?_)
  refine RC.seq ?_
  refine RC.region rfl ?_
  refine RL.ev (.loadR ([.slice na A.nodes.length nc, .slice fa A.free.length fc]) sh26 rfl hb_4.row rfl) rfl rfl ?_
  refine RL.ev (.load1 sh28 rfl (hb_5.cell rfl)) rfl rfl ?_
  refine RL.buildSlice1 sl61 _ ze28 rfl rfl rfl rfl rfl rfl rfl (fun b_13 w_13 e_13 z_13 hb_13 s_13 => ?_)
  have ge_13 := S.le e_13
  have n_4__13 := hb_4.ne e_13
  have n_5__13 := hb_5.ne e_13
  have n_6__13 := hb_6.ne e_13
  have n_7__13 := hb_7.ne e_13
  have n_8__13 := hb_8.ne e_13
  have d_hA_b_13 := hA.neNew e_13
  have S := S.trans s_13
  have hA := hA.sub s_13
  have hb_4 := hb_4.sub s_13
  have hb_5 := hb_5.sub s_13
  have hb_6 := hb_6.sub s_13
  have hb_7 := hb_7.sub s_13
  have hb_8 := hb_8.sub s_13
  refine RL.ev (.func (xs := []) (ys := [_, _, _]) rfl rfl) rfl rfl ?_
  refine RL.call rfl ok28 (c_dcall 29 ok29 [.pointer (some ⟨b_5, 0, none⟩), .pointer (some ⟨b_6, 0, none⟩), .pointer (some ⟨b_7, 0, none⟩)] A na fa nc fc hnc hfc [r] (some ⟨b_13, 0, none⟩) 1 1 rfl (Nat.le_of_ble_eq_true rfl) (fun x hx => by rw [List.mem_singleton] at hx; rw [hx]; exact hr) (fun _ => False) M (fun s' r' e _ => PushJ A V back v s' r' e) w_13 hA (Has.sl1 (enc := u6) (l := [r]) hb_13) (fun _ h => h.elim) (fun hyes bf C w1 s1 hbf hF _ => FC.mono (c_dpush1 A r v back hr hv V P (rows_1 hyes).1 (hm (rows_1 hyes)) (isRow_len (rows_1 hyes) (hm (rows_1 hyes))) bf b_5 b_6 b_7 C w1 hF (hb_5.sub s1) (hb_6.sub s1) (hb_7.sub s1) (fun e => by have := hb_5.lt; omega) (fun e => by have := hb_6.lt; omega) (fun e => by have := hb_7.lt; omega)) (fun u w2 ⟨s', r', e, C', h1, h2, h3, h4, h5, h6⟩ => ⟨s', r', e, C', h1, h2, h3, h4.mono fun k _ e => .inl e, h5, wft_pure h6⟩))) rfl rfl ?_
  rintro _ w1 ⟨ag, na', fa', nc', fc', B, r', e, M', rfl, hu, hnc', hfc', hA', hup, hcp⟩
  have dB8 : ∀ k, M' k → k ≠ b_8 := (fun k hk e => hup.not hb_8.lt (fun e' => d_hA_b_8 _ e' rfl) (e ▸ hk))
  have hup := hup.le S.size
  have S := S.trans ag.sub
  have hA := hA.sub ag.sub
  have hb_4 := hb_4.sub ag.sub
  have hb_5 := hb_5.sub ag.sub
  have hb_6 := hb_6.sub ag.sub
  have hb_7 := hb_7.sub ag.sub
  have hb_8 := hb_8.sub ag.sub
  have hb_13 := hb_13.sub ag.sub
  have hpp := push_form hm hcp
  refine RL.ev (.extract rfl rfl) rfl rfl ?_
  refine RL.ev (.extract rfl rfl) rfl rfl ?_
  refine RL.ev (.extract rfl rfl) rfl rfl ?_
  refine RL.store sh26 rfl rfl rfl hb_8 (by exact Nat.le_of_ble_eq_true rfl) (by rfl) rfl (fun w3 z3 hb_8 a3 => ?_)
  have S := S.upd a3 ge_8
  have hb_4 := hb_4.upd a3 n_4__8
  have hb_5 := hb_5.upd a3 n_5__8
  have hb_6 := hb_6.upd a3 n_6__8
  have hb_7 := hb_7.upd a3 n_7__8
  have hb_13 := hb_13.upd a3 n_8__13.symm
  have hA' := hA'.updD a3 dB8
  have hb_8 : Has w3 b_8 ([.slice na' B.nodes.length nc', .slice fa' B.free.length fc']) _ := hb_8.now (by kernel_rfl)
  refine RL.ev (.assign rfl) rfl rfl ?_
  refine RL.ev (.assign rfl) rfl rfl ?_
  refine RL.nil (RC.back ?_)
  refine RC.done (rs := [.cell 8 26, .tmp 9, .tmp 10]) (vs := [_, _, _]) rfl rfl ⟨⟨_, rfl, .inr ⟨[.slice na' B.nodes.length nc', .slice fa' B.free.length fc'], sh26, hb_8.row, rfl⟩⟩, rfl, rfl, trivial⟩ ?_
  -- end 1
  exact ⟨S, na', fa', nc', fc', B, r', e, M', rfl, hu, hnc', hfc', hA', hup, hpp⟩
end Go.Proofs.Ytefakjhfcgjhgaa
