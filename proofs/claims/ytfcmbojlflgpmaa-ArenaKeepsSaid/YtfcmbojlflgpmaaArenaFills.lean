/-
  The statement ArenaFills.
-/
import Derived.Test.YtfcmbojlflgpmaaArenaFillP
set_option linter.unusedVariables false
set_option linter.unusedSimpArgs false
namespace Go.Proofs.Ytfcmbojlflgpmaa
open Go Go.XL

def n1 (v : Int) : Node := ⟨1, 0, v, 0, 0, 0, 0, 0, 0, 0, 0, 0, 0, 0, 0, 0⟩
theorem n1_ok {v : Int} (h : I64 v) : (n1 v).ok := ⟨(show I64 1 by unfold I64; omega), z64, h, z64, z64, fun k hk => by simp [Node.kids, n1] at hk; subst hk; exact zu64, z64, z64⟩
theorem n1_may {A : Ar} (h : AOk A) (v : Int) : mayMake A (n1 v) := ⟨h, (show (1 : Int) ≤ 1 by omega), (show (1 : Int) ≤ 100 by omega), rfl⟩
theorem tmod60 (p : Int) : (p.tmod 60 + 60).tmod 60 = p % 60 := (norm_mod p 60 (by decide)).2.2

theorem placeR_inj {p p' g g' : Int} (h : isR p g = true) (h' : isR p' g' = true) (e : ofR p g = ofR p' g') : p = p' := by
  rw [← placeR_of h, ← placeR_of h', e]

theorem not_free_next {A : Ar} {x : Node} (hA : AOk A) (hpos : 0 < A.free.length) {p : Int} (h : p = lastAt A ∨ p ∉ A.free) : p ∉ (makeA A x).free := fun hm => by
  have := (take_last_mem hA.nodup hpos (lastAt_get hpos) p).1 hm
  rcases h with h | h
  · exact this.2 h
  · exact h this.1
theorem seen_next {n : Nat} {ρ : Int} {A : Ar} {f : Int → Option Value} {x : Node} {tv : Value} (hA : AOk A) (hpos : 0 < A.free.length) (hlen : A.nodes.length = n) (hga : genAt A (lastAt A) = ρ)
    (h : ∀ r v, f r = some v → ∃ p, r = ofR p ρ ∧ 0 ≤ p ∧ p < n ∧ p ∉ A.free) : ∀ r v, (if r = makeR A then some tv else f r) = some v → ∃ p, r = ofR p ρ ∧ 0 ≤ p ∧ p < n ∧ p ∉ (makeA A x).free := by
  intro r v hr
  have hin := lastAt_in hA hpos
  by_cases e : r = makeR A
  · exact ⟨lastAt A, by rw [e, makeR, hga], hin.1, by omega, not_free_next hA hpos (.inl rfl)⟩
  · rw [if_neg e] at hr
    obtain ⟨p, h1, h2, h3, h4⟩ := h r v hr
    exact ⟨p, h1, h2, h3, not_free_next hA hpos (.inr h4)⟩
theorem places_next {n i : Nat} {A : Ar} {pl : List Int} {x : Node} (hA : AOk A) (hpos : 0 < A.free.length) (hlen : A.nodes.length = n) (h : pl.Nodup ∧ pl.length = i ∧ ∀ p ∈ pl, 0 ≤ p ∧ p < n ∧ p ∉ A.free) :
    (pl ++ [lastAt A]).Nodup ∧ (pl ++ [lastAt A]).length = i + 1 ∧ ∀ p ∈ pl ++ [lastAt A], 0 ≤ p ∧ p < n ∧ p ∉ (makeA A x).free := by
  have hin := lastAt_in hA hpos
  have hmem := List.mem_of_getElem? (lastAt_get hpos)
  refine ⟨?_, by simp [h.2.1], fun p hp => ?_⟩
  · rw [List.nodup_append]
    exact ⟨h.1, by simp, fun a ha b hb e => by rw [List.mem_singleton] at hb; subst hb; subst e; exact (h.2.2 _ ha).2.2 hmem⟩
  · rcases List.mem_append.1 hp with hp | hp
    · have := h.2.2 p hp
      exact ⟨this.1, this.2.1, not_free_next hA hpos (.inr this.2.2)⟩
    · rw [List.mem_singleton] at hp
      subst hp
      exact ⟨hin.1, by omega, not_free_next hA hpos (.inl rfl)⟩
theorem make_full {A : Ar} {x : Node} {P3 : Prop} {v : Value} (hm : mayMake A x) (hp : A.free.length = 0) (h : ¬ mayMake A x ∧ v = .tuple #[arV0, .int .u64 0, .int .i64 1] ∨ mayMake A x ∧ A.free.length = 0 ∧ v = .tuple #[arV0, .int .u64 0, .int .i64 2] ∨ mayMake A x ∧ 0 < A.free.length ∧ P3) : v = .tuple #[arV0, .int .u64 0, .int .i64 2] := by
  rcases h with h | h | h
  · exact absurd hm h.1
  · exact h.2.2
  · omega
theorem drop_goodF {A B C : Ar} {l : List Int} {f : Int} (ha : AOk A) (hb : dropAll A l = some B) (h0 : f = 0 → AOk A ∧ dropAll A l = some C) (h1 : ¬ f = 0 → C = ar0 ∧ f = 1 ∧ (¬ AOk A ∨ dropAll A l = none)) : f = 0 ∧ C = B := by
  by_cases hf : f = 0
  · have := (h0 hf).2
    rw [hb] at this
    cases this
    exact ⟨hf, rfl⟩
  · rcases (h1 hf).2.2 with h | h
    · exact absurd ha h
    · rw [hb] at h; cases h
theorem c_aDropM (A : Ar) (na fa : Option Addr) (nc fc : Nat) (l : List Int) (m : Nat) (hm : m = l.length) (pa : Option Addr) (pc : Nat) (hl : l.length ≤ 10000) (hli : ∀ x ∈ l, I64 x) (w : World) (hA : ArR w na fa A) (hfc : A.free.length ≤ fc) (hP : Sl w pa 1 (l.map fun x => [i6 x])) :
    FC Try.prog 10 [arV na fa nc fc A, .slice pa m pc] w (fun v w' => Sub w w' ∧ ((¬ AOk A ∨ dropAll A l = none) ∧ v = .tuple #[arV0, .int .i64 1] ∨
      AOk A ∧ ∃ A' av, dropAll A l = some A' ∧ v = .tuple #[av, .int .i64 0] ∧ ArO w w' na fa A av A')) := by
  subst hm
  exact c_aDrop A na fa nc fc l pa pc hl hli w hA hfc hP
set_option maxHeartbeats 1000000 in
theorem law_ArenaFills (a0 : Int) (w0 : (Lit.int .i64 a0).wf = true) (w : World) : FC Try.prog 5 [.int .i64 a0] w (Val (.bool true) w) := by
  have nm := norm_mod a0 60 (by decide)
  have h60 : 0 ≤ a0 % 60 ∧ a0 % 60 < 60 := by omega
  obtain ⟨n, hn⟩ : ∃ n : Nat, (n : Int) = 1 + a0 % 60 := ⟨(1 + a0 % 60).toNat, by omega⟩
  have hn1 : 1 ≤ n ∧ n ≤ 512 := by omega
  have hn60 : n ≤ 60 := by omega
  refine FC.intro Try.func5 rfl Try.ntmps5 rfl ?_
  have S := Sub.refl w
  refine RC.seq ?_
  refine RC.region rfl ?_
  refine RL.ev (.assign rfl) rfl rfl ?_
  refine RL.nil (RC.back ?_)
  refine RC.seq ?_
  refine RC.region rfl ?_
  refine RL.ev (.move rfl) rfl rfl ?_
  refine RL.ev (.rem rfl rfl (by decide)) rfl rfl ?_
  refine RL.ev (.as (.bin rfl rfl rfl) (wi64 (y := a0.tmod 60 + 60) (by rfl) (by omega))) rfl rfl ?_
  refine RL.ev (.as (v' := .int .i64 (a0 % 60)) (.rem rfl rfl (by decide)) (by rw [nm.2.2])) rfl rfl ?_
  refine RL.ev (.as (.bin rfl rfl rfl) (wi64 (y := (n : Int)) (by omega) (by omega))) rfl rfl ?_
  refine RL.ev (.assign rfl) rfl rfl ?_
  refine RL.nil (RC.back ?_)
  refine RC.seq ?_
  refine RC.region rfl ?_
  refine RL.ev (.move rfl) rfl rfl ?_
  refine RL.call rfl ok15 (c_aNew n hn1 w) rfl rfl ?_
  rintro _ w1 ⟨na0, fa0, nc0, fc0, rfl, hnc0, hfc0, hn0, s2⟩
  have hI0 := hn0 (fun _ => False) (fun _ h => h.elim)
  have S := S.trans s2
  refine RL.ev (.move rfl) rfl rfl ?_
  refine RL.ev (.extract rfl rfl) rfl rfl ?_
  refine RL.ev (.extract rfl rfl) rfl rfl ?_
  refine RL.alloc ze25 rfl rfl (fun b_3 w_3 e_3 z_3 hb_3 s_3 => ?_)
  have ge_3 := S.le e_3
  have S := S.trans s_3
  have hI0 := hI0.add s_3 e_3
  refine RL.store sh25 rfl rfl rfl hb_3 (by exact Nat.le_of_ble_eq_true rfl) (by rfl) rfl (fun w3 z3 hb_3 a3 => ?_)
  have S := S.upd a3 ge_3
  have hI0 := hI0.upd a3 (.inr rfl)
  have hb_3 : Has w3 b_3 ([.slice na0 (newA n).nodes.length nc0, .slice fa0 (newA n).free.length fc0]) _ := hb_3.now (by kernel_rfl)
  refine RL.ev (.assign rfl) rfl rfl ?_
  refine RL.nil (RC.back ?_)
  refine RC.seq ?_
  refine RC.region rfl ?_
  refine RL.ev (.assign rfl) rfl rfl ?_
  refine RL.nil (RC.back ?_)
  refine RC.seq ?_
  refine RC.seq ?_
  refine RC.region rfl ?_
  refine RL.ev (.move rfl) rfl rfl ?_
  obtain ⟨E, hE⟩ : ∃ E, E = w3.heap.size := ⟨_, rfl⟩
  have lt3 := hb_3.lt
  have szS := S.size
  rw [← hE] at lt3 szS
  refine RL.nil (RC.back ?_)
  refine RC.block ?_
  refine RC.loop (α := Nat × Ar × (Option Addr × Option Addr × Nat × Nat) × List Int × (Option Addr × Nat)) (fun x => [(0, .int .i64 (n : Int)), (3, .pointer (some ⟨b_3, 0, none⟩)), (4, .int .i64 0), (5, .slice x.2.2.2.2.1 (x.2.2.2.1.map fun x => [i6 x]).length x.2.2.2.2.2), (27, .int .i64 (x.1 : Int))]) (fun x w4 => (x.1 ≤ 2 ∧ Fill n x.1 x.2.1 0 ∧ (x.1 = 0 → x.2.2.2.1 = []) ∧ (1 ≤ x.1 → x.2.2.2.1.Nodup ∧ x.2.2.2.1.length = n ∧ ∀ p ∈ x.2.2.2.1, 0 ≤ p ∧ p < n) ∧ x.2.1.nodes.length ≤ x.2.2.1.2.2.1 ∧ x.2.1.free.length ≤ x.2.2.1.2.2.2) ∧ Has w4 b_3 [.slice x.2.2.1.1 x.2.1.nodes.length x.2.2.1.2.2.1, .slice x.2.2.1.2.1 x.2.1.free.length x.2.2.1.2.2.2] 25 ∧ Own E w4 3 1 (.slice x.2.2.2.2.1 (x.2.2.2.1.map fun x => [i6 x]).length x.2.2.2.2.2) (x.2.2.2.1.map fun x => [i6 x]) ∧ Imm (Nown (· = b_3) (.slice x.2.2.2.2.1 (x.2.2.2.1.map fun x => [i6 x]).length x.2.2.2.2.2)) (fun u => ArR u x.2.2.1.1 x.2.2.1.2.1 x.2.1) w4 ∧ E ≤ w4.heap.size ∧ Sub w w4) (fun x => 2 - x.1) (0, newA n, (na0, fa0, nc0, fc0), [], (none, 0)) (keep_of (by repeat (first | exact trivial | refine And.intro rfl ?_))) (⟨⟨by omega, fill_new hn1, fun _ => rfl, fun h => absurd h (show ¬ (1 : Nat) ≤ 0 by omega), hnc0, hfc0⟩, hb_3, Own.nil _ _ _ _, hI0.weaken (fun k h => h.elim .inr (fun e => absurd e (by simp [ob, Value.ownBlock]))), by omega, S⟩) (fun x w4 hJ => ?_)
  obtain ⟨ρ, A, ⟨na, fa, nc, fc⟩, pl, ⟨a_u, c_u⟩⟩ := x; obtain ⟨⟨hρ, hF, hp0, hp1, hnc, hfc⟩, hb_3, o5, hI, szB, S⟩ := hJ; simp only [] at hρ hF hp0 hp1 hnc hfc hb_3 o5 hI
  refine RC.seq ?_
  refine RC.region rfl ?_
  refine RL.ev (.bin rfl rfl rfl) rfl rfl ?_
  refine RL.nil (RC.back ?_)
  refine RC.seq ?_
  refine RC.cond_dec rfl (fun h5 => ?_) (fun h5 => ?_)
  ·
    refine RC.skip (RC.back ?_)
    refine RC.seq ?_
    refine RC.block ?_
    refine RC.seq ?_
    refine RC.region rfl ?_
    refine RL.ev (.move rfl) rfl rfl ?_
    refine RL.ev (.assign rfl) rfl rfl ?_
    refine RL.nil (RC.back ?_)
    refine RC.seq ?_
    refine RC.region rfl ?_
    refine RL.makeMap .u64 rfl rfl (fun b_30 w_30 e_30 z_30 hb_30 s_30 => ?_)
    have ge_30 := S.le e_30
    have n_3__30 := hb_3.ne e_30
    have d_o5_b_30 := o5.neNew e_30
    have S := S.trans s_30
    have hb_3 := hb_3.sub s_30
    have o5 := o5.sub s_30
    have hI := hI.add s_30 e_30
    have szB := Nat.le_trans szB s_30.size
    refine RL.ev (.assign rfl) rfl rfl ?_
    refine RL.nil (RC.back ?_)
    refine RC.seq ?_
    refine RC.seq ?_
    refine RC.region rfl ?_
    refine RL.ev (.move rfl) rfl rfl ?_
    refine RL.ev (.move rfl) rfl rfl ?_
    refine RL.nil (RC.back ?_)
    refine RC.block ?_
    refine RC.loop (α := Nat × Ar × (Option Addr × Option Addr × Nat × Nat) × List Int × (Option Addr × Nat) × (Int → Option Value)) (fun y => [(0, .int .i64 (n : Int)), (3, .pointer (some ⟨b_3, 0, none⟩)), (4, .int .i64 0), (5, .slice y.2.2.2.2.1.1 (y.2.2.2.1.map fun x => [i6 x]).length y.2.2.2.2.1.2), (6, .int .i64 (ρ : Int)), (7, .map (some b_30)), (27, .int .i64 (ρ : Int)), (31, .int .i64 (n : Int)), (32, .int .i64 (y.1 : Int))]) (fun y w6 => (y.1 ≤ n ∧ Fill n ρ y.2.1 y.1 ∧ (ρ = 0 → y.2.2.2.1.Nodup ∧ y.2.2.2.1.length = y.1 ∧ ∀ p ∈ y.2.2.2.1, 0 ≤ p ∧ p < n ∧ p ∉ y.2.1.free) ∧ (1 ≤ ρ → y.2.2.2.1.Nodup ∧ y.2.2.2.1.length = n ∧ ∀ p ∈ y.2.2.2.1, 0 ≤ p ∧ p < n) ∧ y.2.1.nodes.length ≤ y.2.2.1.2.2.1 ∧ y.2.1.free.length ≤ y.2.2.1.2.2.2 ∧ ∀ r v, y.2.2.2.2.2 r = some v → ∃ p, r = ofR p ρ ∧ 0 ≤ p ∧ p < n ∧ p ∉ y.2.1.free) ∧ Has w6 b_3 [.slice y.2.2.1.1 y.2.1.nodes.length y.2.2.1.2.2.1, .slice y.2.2.1.2.1 y.2.1.free.length y.2.2.1.2.2.2] 25 ∧ HasM w6 b_30 .u64 y.2.2.2.2.2 ∧ b_3 ≠ b_30 ∧ Own E w6 3 1 (.slice y.2.2.2.2.1.1 (y.2.2.2.1.map fun x => [i6 x]).length y.2.2.2.2.1.2) (y.2.2.2.1.map fun x => [i6 x]) ∧ (∀ k, ob (.slice y.2.2.2.2.1.1 (y.2.2.2.1.map fun x => [i6 x]).length y.2.2.2.2.1.2) = some k → k ≠ b_30) ∧ Imm (Nown (fun k => k = b_3 ∨ k = b_30) (.slice y.2.2.2.2.1.1 (y.2.2.2.1.map fun x => [i6 x]).length y.2.2.2.2.1.2)) (fun u => ArR u y.2.2.1.1 y.2.2.1.2.1 y.2.1) w6 ∧ E ≤ w6.heap.size ∧ Sub w w6) (fun y => n - y.1) (0, A, (na, fa, nc, fc), pl, (a_u, c_u), fun _ => none) (keep_of (by repeat (first | exact trivial | refine And.intro rfl ?_))) (⟨⟨Nat.zero_le _, hF, fun h => by rw [hp0 h]; simp, hp1, hnc, hfc, fun r v h => by cases h⟩, hb_3, hb_30, n_3__30, o5, d_o5_b_30, hI.weaken (fun k h => h.elim (fun e => e.elim (fun e => .inl (.inl e)) .inr) (fun e => .inl (.inr e))), szB, S⟩) (fun y w6 hJ => ?_)
    obtain ⟨i, A, ⟨na, fa, nc, fc⟩, pl, ⟨a_u, c_u⟩, f⟩ := y; obtain ⟨⟨hi, hF, hp0, hp1, hnc, hfc, hseen⟩, hb_3, hb_30, n_3__30, o5, d30, hI, szB, S⟩ := hJ; simp only [] at hi hF hp0 hp1 hnc hfc hseen hb_3 hb_30 o5 d30 hI
    refine RC.seq ?_
    refine RC.region rfl ?_
    refine RL.ev (.bin rfl rfl rfl) rfl rfl ?_
    refine RL.nil (RC.back ?_)
    refine RC.seq ?_
    refine RC.cond_dec rfl (fun h7 => ?_) (fun h7 => ?_)
    ·
      have hpos : 0 < A.free.length := (by have := hF.fr; omega)
      have hin := lastAt_in hF.ok hpos
      have hlen := hF.len
      have hga : genAt A (lastAt A) = ρ := fill_genAt hF (by omega)
      have hrr : makeR A = (ρ : Int) * 65536 + lastAt A + 1 := (by rw [makeR, hga]; rfl)
      have hisr : isR (lastAt A) ρ = true := (hga ▸ make_isR hF.ok hpos)
      have hfn : f (makeR A) = none := (by cases hq : f (makeR A) with | none => rfl | some v => obtain ⟨p, e, h1, h2, h3⟩ := hseen _ v hq; exact absurd (List.mem_of_getElem? (lastAt_get hpos)) (placeR_inj (isR_iff _ _ |>.2 (by omega)) hisr (e.symm.trans (by rw [makeR, hga])) ▸ h3))
      have hNlt : ∀ k, Nown (fun k => k = b_3 ∨ k = b_30) (.slice a_u (pl.map fun x => [i6 x]).length c_u) k → k < w6.heap.size := (fun k e => e.elim (fun e => e.elim (fun e => e ▸ hb_3.lt) (fun e => e ▸ hb_30.lt)) (fun e => (o5.ge k e).2))
      refine RC.skip (RC.back ?_)
      refine RC.seq ?_
      refine RC.block ?_
      refine RC.seq ?_
      refine RC.region rfl ?_
      refine RL.ev (.move rfl) rfl rfl ?_
      refine RL.ev (.assign rfl) rfl rfl ?_
      refine RL.nil (RC.back ?_)
      refine RC.seq ?_
      refine RC.region rfl ?_
      refine RL.ev (.loadR ([.slice na A.nodes.length nc, .slice fa A.free.length fc]) sh25 rfl hb_3.row rfl) rfl rfl ?_
      refine RL.ev (.move rfl) rfl rfl ?_
      refine RL.ev (.buildS ze35 pl35 rfl rfl) rfl rfl ?_
      refine RL.call rfl ok17 (c_aMake A na fa nc fc (n1 i) (n1_ok (by unfold I64; omega)) w6 hI.now hfc) rfl rfl ?_
      rintro _ w8 ⟨s9, hr⟩
      obtain ⟨av, rfl, nb', fb', ncb, fcb, rfl, hnB, hfB, hiB⟩ := make_third (n1_may hF.ok _) hpos hr
      have hB := hiB _ hNlt hI
      have S := S.trans s9
      have hb_3 := hb_3.sub s9
      have hb_30 := hb_30.sub s9
      have o5 := o5.sub s9
      have hI := hI.sub s9
      have szB := Nat.le_trans szB s9.size
      refine RL.ev (.move rfl) rfl rfl ?_
      refine RL.ev (.extract rfl rfl) rfl rfl ?_
      refine RL.ev (.extract rfl rfl) rfl rfl ?_
      refine RL.ev (.extract rfl rfl) rfl rfl ?_
      refine RL.alloc ze25 rfl rfl (fun b_9 w_9 e_9 z_9 hb_9 s_9 => ?_)
      have ge_9 := S.le e_9
      have n_3__9 := hb_3.ne e_9
      have n_30__9 := hb_30.ne e_9
      have d_o5_b_9 := o5.neNew e_9
      have S := S.trans s_9
      have hb_3 := hb_3.sub s_9
      have hb_30 := hb_30.sub s_9
      have o5 := o5.sub s_9
      have hI := hI.add s_9 e_9
      have szB := Nat.le_trans szB s_9.size
      have hB := hB.add s_9 e_9
      refine RL.store sh25 rfl rfl rfl hb_9 (by exact Nat.le_of_ble_eq_true rfl) (by rfl) rfl (fun w10 z10 hb_9 a10 => ?_)
      have S := S.upd a10 ge_9
      have hb_3 := hb_3.upd a10 n_3__9
      have hb_30 := hb_30.upd a10 n_30__9
      have o5 := o5.updD a10 d_o5_b_9
      have hI := hI.upd a10 (.inr rfl)
      have szB := Nat.le_trans szB a10.size
      have hB := hB.upd a10 (.inr rfl)
      have hb_9 : Has w10 b_9 ([.slice nb' (makeA A (n1 i)).nodes.length ncb, .slice fb' (makeA A (n1 i)).free.length fcb]) _ := hb_9.now (by kernel_rfl)
      refine RL.ev (.assign rfl) rfl rfl ?_
      refine RL.ev (.assign rfl) rfl rfl ?_
      refine RL.nil (RC.back ?_)
      refine RC.seq ?_
      refine RC.seq ?_
      refine RC.region rfl ?_
      refine RL.ev (.move rfl) rfl rfl ?_
      refine RL.ev (.as (v' := .bool false) (.bin rfl rfl rfl) (congrArg Value.bool (decide_eq_false (fun h => h rfl)))) rfl rfl ?_
      refine RL.ev (.move rfl) rfl rfl ?_
      refine RL.ev (.move rfl) rfl rfl ?_
      refine RL.ev (.move rfl) rfl rfl ?_
      refine RL.ev (.as (v' := .bool false) (.lookup Try.underlying49 Try.underlying32 ze4 rfl rfl hb_30) (by rw [hfn]; rfl)) rfl rfl ?_
      refine RL.ev (.pick_f rfl rfl) rfl rfl ?_
      refine RL.ev (.move rfl) rfl rfl ?_
      refine RL.ev (.move rfl) rfl rfl ?_
      refine RL.ev (.as (.quo rfl rfl (by decide)) (wu64 (y := (ρ : Int)) (by rw [tdivE (by omega)]; omega) (by omega))) rfl rfl ?_
      refine RL.ev (.as (.conv i32 i3 rfl) (wi64 (y := (ρ : Int)) (by rfl) (by omega))) rfl rfl ?_
      refine RL.ev (.move rfl) rfl rfl ?_
      refine RL.ev (.as (v' := .bool false) (.bin rfl rfl rfl) (congrArg Value.bool (decide_eq_false (fun h => h rfl)))) rfl rfl ?_
      refine RL.ev (.pick_f rfl rfl) rfl rfl ?_
      refine RL.nil (RC.back ?_)
      refine RC.cond_f rfl ?_
      refine RC.skip (RC.back ?_)
      refine RC.seq ?_
      refine RC.region rfl ?_
      refine RL.ev (.move rfl) rfl rfl ?_
      refine RL.ev (.move rfl) rfl rfl ?_
      refine RL.ev (.loadR ([.slice nb' (makeA A (n1 i)).nodes.length ncb, .slice fb' (makeA A (n1 i)).free.length fcb]) sh25 rfl hb_9.row rfl) rfl rfl ?_
      refine RL.store sh25 rfl rfl rfl hb_3 (by exact Nat.le_of_ble_eq_true rfl) (by rfl) rfl (fun w11 z11 hb_3 a11 => ?_)
      have S := S.upd a11 ge_3
      have hb_30 := hb_30.upd a11 n_3__30.symm
      have o5 := o5.updD a11 (fun k hk e => absurd (o5.ge k hk).1 (by omega))
      have hI := hI.upd a11 (.inl (.inl (.inl rfl)))
      have szB := Nat.le_trans szB a11.size
      have hB := hB.upd a11 (.inl (.inl (.inl rfl)))
      have hb_9 := hb_9.upd a11 n_3__9.symm
      have hb_3 : Has w11 b_3 ([.slice nb' (makeA A (n1 i)).nodes.length ncb, .slice fb' (makeA A (n1 i)).free.length fcb]) _ := hb_3.now (by kernel_rfl)
      refine RL.mapUpdate Try.underlying49 Try.underlying32 rfl rfl rfl hb_30 rfl (fun w12 z12 hb_30 a12 => ?_)
      have S := S.upd a12 ge_30
      have hb_3 := hb_3.upd a12 n_3__30
      have o5 := o5.updD a12 d30
      have hI := hI.upd a12 (.inl (.inl (.inr rfl)))
      have szB := Nat.le_trans szB a12.size
      have hB := hB.upd a12 (.inl (.inl (.inr rfl)))
      have hb_9 := hb_9.upd a12 n_30__9.symm
      refine RL.nil (RC.back ?_)
      refine RC.seq ?_
      refine RC.region rfl ?_
      refine RL.ev (.move rfl) rfl rfl ?_
      refine RL.ev (.bin rfl rfl rfl) rfl rfl ?_
      refine RL.nil (RC.back ?_)
      refine RC.cond_dec rfl (fun h13 => ?_) (fun h13 => ?_)
      ·
        have hρ0 : ρ = 0 := (by omega)
        refine RC.region rfl ?_
        refine RL.ev (.move rfl) rfl rfl ?_
        refine RL.ev (.move rfl) rfl rfl ?_
        refine RL.ev (.as (v' := .int .u64 (makeR A % 65536)) (.rem rfl rfl (by decide)) (by rw [tmodE (by omega)])) rfl rfl ?_
        refine RL.ev (.as (.conv i32 i3 rfl) (wi64 (y := makeR A % 65536) (by rfl) (by omega))) rfl rfl ?_
        refine RL.ev (.as (.bin rfl rfl rfl) (wi64 (y := lastAt A) (by omega) (by omega))) rfl rfl ?_
        refine RL.buildSlice1 sl23 _ ze3 rfl rfl rfl rfl rfl rfl rfl (fun b_67 w_67 e_67 z_67 hb_67 s_67 => ?_)
        have ge_67 := S.le e_67
        have n_3__67 := hb_3.ne e_67
        have n_30__67 := hb_30.ne e_67
        have n_9__67 := hb_9.ne e_67
        have d_o5_b_67 := o5.neNew e_67
        have S := S.trans s_67
        have hb_3 := hb_3.sub s_67
        have hb_30 := hb_30.sub s_67
        have o5 := o5.sub s_67
        have hI := hI.sub s_67
        have szB := Nat.le_trans szB s_67.size
        have hB := hB.sub s_67
        have hb_9 := hb_9.sub s_67
        have sz_68 := S.size
        have ltb_3_68 := hb_3.lt
        have ltb_30_68 := hb_30.lt
        have ltb_9_68 := hb_9.lt
        have ltb_67_68 := hb_67.lt
        refine RL.append2 (base := E) (rows := pl.map fun x => [i6 x]) (news := [_]) sl23 ze3 rfl rfl rfl rfl (.inl o5) (Has.slOne hb_67) rfl (by intro r hr; rw [List.mem_singleton] at hr; subst hr; rfl) rfl (by (try simp only [List.length_map, List.length_nil, List.length_append, List.length_cons]); rw [List.length_map] at *; have := hp0 hρ0; omega) (by (try simp only [List.length_map, List.length_nil, List.length_append, List.length_cons]); rw [List.length_map] at *; have := hp0 hρ0; omega) (by omega) rfl rfl (fun v_68 w_68 hc_68 ho_68 ag_68 ob_68 => ?_)
        have o68 := ho_68 (.inl (by simp))
        rw [show _ ++ [_] = ((pl ++ [lastAt A]).map fun x => [i6 x]) from by rw [List.map_append]; rfl] at o68
        have d_o68_b_3 := obNe ob_68 (fun k hk e => absurd (o5.ge k hk).1 (by omega)) hb_3.lt
        have d_o68_b_30 := obNe ob_68 d30 hb_30.lt
        have d_o68_b_9 := obNe ob_68 d_o5_b_9 hb_9.lt
        have S := S.agrN ag_68 (fun k e => Nat.le_trans (by omega) e.2)
        have hb_3 := hb_3.step ag_68 (fun e => absurd e.2 (by omega))
        have hb_30 := hb_30.step ag_68 (fun e => d30 _ e.1 rfl)
        have hI := Imm.app (hI.weaken (fun _ h => .inl (h))) (ag_68.mono fun k _ e => e.1) ob_68
        have szB := Nat.le_trans szB ag_68.size
        have hB := Imm.app (hB.weaken (fun _ h => .inl (h))) (ag_68.mono fun k _ e => e.1) ob_68
        have hb_9 := hb_9.step ag_68 (fun e => d_o5_b_9 _ e.1 rfl)
        obtain ⟨a_68, c_68, rfl, k_68⟩ := o68.form
        refine RL.ev (.assign rfl) rfl rfl ?_
        refine RL.nil (RC.back ?_)
        refine RC.region rfl ?_
        refine RL.ev (.as (.bin rfl rfl rfl) (wi64 (y := ((i + 1 : Nat) : Int)) (by omega) (by omega))) rfl rfl ?_
        refine RL.ev (.move rfl) rfl rfl ?_
        exact RL.nil (fun a ka => ⟨(i + 1, makeA A (n1 i), (nb', fb', ncb, fcb), pl ++ [lastAt A], (a_68, c_68), _), ⟨⟨by omega, fill_make hF (by omega) (n1_may hF.ok _), fun _ => places_next hF.ok hpos hlen (hp0 hρ0), fun h => absurd h (by omega), hnB, hfB, seen_next hF.ok hpos hlen hga hseen⟩, hb_3, hb_30, n_3__30, o68, d_o68_b_30, hB, szB, S⟩, by omega, ka.keep (keep_of (by repeat (first | exact trivial | refine And.intro rfl ?_)))⟩)
      ·
        have hρ0 : ¬ ρ = 0 := (fun e => h13 (by rw [e]; rfl))
        refine RC.skip (RC.back ?_)
        refine RC.region rfl ?_
        refine RL.ev (.as (.bin rfl rfl rfl) (wi64 (y := ((i + 1 : Nat) : Int)) (by omega) (by omega))) rfl rfl ?_
        refine RL.ev (.move rfl) rfl rfl ?_
        exact RL.nil (fun a ka => ⟨(i + 1, makeA A (n1 i), (nb', fb', ncb, fcb), pl, (a_u, c_u), _), ⟨⟨by omega, fill_make hF (by omega) (n1_may hF.ok _), fun h => absurd h hρ0, hp1, hnB, hfB, seen_next hF.ok hpos hlen hga hseen⟩, hb_3, hb_30, n_3__30, o5, d30, hB.weaken (fun _ h => .inl h), szB, S⟩, by omega, ka.keep (keep_of (by repeat (first | exact trivial | refine And.intro rfl ?_)))⟩)
    ·
      obtain rfl : n = i := (by omega)
      have hlen := hF.len
      have hpc : pl.Nodup ∧ pl.length = n ∧ ∀ p ∈ pl, 0 ≤ p ∧ p < n := (by rcases Nat.eq_zero_or_pos ρ with h | h; exact ⟨(hp0 h).1, (hp0 h).2.1, fun p hp => ⟨((hp0 h).2.2 p hp).1, ((hp0 h).2.2 p hp).2.1⟩⟩; exact hp1 h)
      have hemp : A.free.length = 0 := (by have := hF.fr; omega)
      obtain ⟨Bd, hB1, hB2⟩ := fill_drop hF (by omega) hpc.1 hpc.2.2 hpc.2.1
      refine RC.exit rfl (RC.back ?_)
      refine RC.seq ?_
      refine RC.seq ?_
      refine RC.region rfl ?_
      refine RL.ev (.loadR ([.slice na A.nodes.length nc, .slice fa A.free.length fc]) sh25 rfl hb_3.row rfl) rfl rfl ?_
      refine RL.ev (.buildS ze35 pl35 rfl rfl) rfl rfl ?_
      refine RL.call rfl ok17 (c_aMake A na fa nc fc (n1 0) (n1_ok z64) w6 hI.now hfc) rfl rfl ?_
      rintro _ w14 ⟨s15, hr⟩
      obtain rfl := make_full (n1_may hF.ok _) hemp hr
      have S := S.trans s15
      have hb_3 := hb_3.sub s15
      have hb_30 := hb_30.sub s15
      have o5 := o5.sub s15
      have hI := hI.sub s15
      have szB := Nat.le_trans szB s15.size
      refine RL.ev (.move rfl) rfl rfl ?_
      refine RL.ev (.extract rfl rfl) rfl rfl ?_
      refine RL.ev (.extract rfl rfl) rfl rfl ?_
      refine RL.ev (.extract rfl rfl) rfl rfl ?_
      refine RL.alloc ze25 rfl rfl (fun b_12 w_12 e_12 z_12 hb_12 s_12 => ?_)
      have ge_12 := S.le e_12
      have n_3__12 := hb_3.ne e_12
      have n_30__12 := hb_30.ne e_12
      have d_o5_b_12 := o5.neNew e_12
      have S := S.trans s_12
      have hb_3 := hb_3.sub s_12
      have hb_30 := hb_30.sub s_12
      have o5 := o5.sub s_12
      have hI := hI.add s_12 e_12
      have szB := Nat.le_trans szB s_12.size
      refine RL.store sh25 rfl rfl rfl hb_12 (by exact Nat.le_of_ble_eq_true rfl) (by rfl) rfl (fun w16 z16 hb_12 a16 => ?_)
      have S := S.upd a16 ge_12
      have hb_3 := hb_3.upd a16 n_3__12
      have hb_30 := hb_30.upd a16 n_30__12
      have o5 := o5.updD a16 d_o5_b_12
      have hI := hI.upd a16 (.inr rfl)
      have szB := Nat.le_trans szB a16.size
      have hb_12 : Has w16 b_12 ([.slice none 0 0, .slice none 0 0]) _ := hb_12.now (by kernel_rfl)
      refine RL.ev (.assign rfl) rfl rfl ?_
      refine RL.ev (.assign rfl) rfl rfl ?_
      refine RL.nil (RC.back ?_)
      refine RC.seq ?_
      refine RC.region rfl ?_
      refine RL.ev (.move rfl) rfl rfl ?_
      refine RL.ev (.as (v' := .bool false) (.bin rfl rfl rfl) (congrArg Value.bool (decide_eq_false (fun h => h rfl)))) rfl rfl ?_
      refine RL.nil (RC.back ?_)
      refine RC.cond_f rfl ?_
      refine RC.skip (RC.back ?_)
      refine RC.seq ?_
      refine RC.region rfl ?_
      refine RL.ev (.loadR ([.slice na A.nodes.length nc, .slice fa A.free.length fc]) sh25 rfl hb_3.row rfl) rfl rfl ?_
      refine RL.ev (.move rfl) rfl rfl ?_
      refine RL.call rfl ok10 (c_aDropM A na fa nc fc pl (pl.map fun x => [i6 x]).length (List.length_map _) a_u c_u (by omega) (fun p hp => by have := hpc.2.2 p hp; unfold I64; omega) w16 hI.now hfc o5.sl.1) rfl rfl ?_
      rintro _ w17 ⟨s18, hr⟩
      obtain ⟨nd', fd', ncd, fcd, C, fe, rfl, hnC, hfC, hiC, hf0, hf1⟩ := drop_form hr
      have hC := hiC _ (fun k e => e.elim (fun e => e.elim (fun e => e.elim (fun e => e ▸ hb_3.lt) (fun e => e ▸ hb_30.lt)) (fun e => (o5.ge k e).2)) (fun e => e ▸ hb_12.lt)) hI
      have hfe := drop_goodF hF.ok hB1 hf0 hf1
      have hFC : Fill n ((ρ + 1 : Nat) : Int) C 0 := (by rw [hfe.2]; have := hB2; rwa [show ((ρ : Int) + 1) = ((ρ + 1 : Nat) : Int) by omega] at this)
      have S := S.trans s18
      have hb_3 := hb_3.sub s18
      have hb_30 := hb_30.sub s18
      have o5 := o5.sub s18
      have hI := hI.sub s18
      have szB := Nat.le_trans szB s18.size
      have hb_12 := hb_12.sub s18
      refine RL.ev (.move rfl) rfl rfl ?_
      refine RL.ev (.extract rfl rfl) rfl rfl ?_
      refine RL.ev (.extract rfl rfl) rfl rfl ?_
      refine RL.alloc ze25 rfl rfl (fun b_15 w_15 e_15 z_15 hb_15 s_15 => ?_)
      have ge_15 := S.le e_15
      have n_3__15 := hb_3.ne e_15
      have n_30__15 := hb_30.ne e_15
      have n_12__15 := hb_12.ne e_15
      have d_o5_b_15 := o5.neNew e_15
      have S := S.trans s_15
      have hb_3 := hb_3.sub s_15
      have hb_30 := hb_30.sub s_15
      have o5 := o5.sub s_15
      have hI := hI.add s_15 e_15
      have szB := Nat.le_trans szB s_15.size
      have hb_12 := hb_12.sub s_15
      have hC := hC.add s_15 e_15
      refine RL.store sh25 rfl rfl rfl hb_15 (by exact Nat.le_of_ble_eq_true rfl) (by rfl) rfl (fun w19 z19 hb_15 a19 => ?_)
      have S := S.upd a19 ge_15
      have hb_3 := hb_3.upd a19 n_3__15
      have hb_30 := hb_30.upd a19 n_30__15
      have o5 := o5.updD a19 d_o5_b_15
      have hI := hI.upd a19 (.inr rfl)
      have szB := Nat.le_trans szB a19.size
      have hb_12 := hb_12.upd a19 n_12__15
      have hC := hC.upd a19 (.inr rfl)
      have hb_15 : Has w19 b_15 ([.slice nd' C.nodes.length ncd, .slice fd' C.free.length fcd]) _ := hb_15.now (by kernel_rfl)
      refine RL.ev (.assign rfl) rfl rfl ?_
      refine RL.nil (RC.back ?_)
      refine RC.seq ?_
      refine RC.seq ?_
      refine RC.region rfl ?_
      refine RL.ev (.move rfl) rfl rfl ?_
      refine RL.ev (.as (v' := .bool false) (.bin rfl rfl rfl) (congrArg Value.bool (decide_eq_false (fun h => h hfe.1)))) rfl rfl ?_
      refine RL.ev (.move rfl) rfl rfl ?_
      refine RL.ev (.field0 fo25_1 rfl) rfl rfl ?_
      refine RL.ev (.load1 sh23 rfl (hb_15.cell rfl)) rfl rfl ?_
      refine RL.ev (.len sl23 rfl) rfl rfl ?_
      refine RL.ev (.move rfl) rfl rfl ?_
      refine RL.ev (.as (v' := .bool false) (.bin rfl rfl rfl) (congrArg Value.bool (decide_eq_false (fun h => h (by have := hFC.fr; omega))))) rfl rfl ?_
      refine RL.ev (.pick_f rfl rfl) rfl rfl ?_
      refine RL.nil (RC.back ?_)
      refine RC.cond_f rfl ?_
      refine RC.skip (RC.back ?_)
      refine RC.region rfl ?_
      refine RL.ev (.loadR ([.slice nd' C.nodes.length ncd, .slice fd' C.free.length fcd]) sh25 rfl hb_15.row rfl) rfl rfl ?_
      refine RL.store sh25 rfl rfl rfl hb_3 (by exact Nat.le_of_ble_eq_true rfl) (by rfl) rfl (fun w20 z20 hb_3 a20 => ?_)
      have S := S.upd a20 ge_3
      have hb_30 := hb_30.upd a20 n_3__30.symm
      have o5 := o5.updD a20 (fun k hk e => absurd (o5.ge k hk).1 (by omega))
      have hI := hI.upd a20 (.inl (.inl (.inl (.inl rfl))))
      have szB := Nat.le_trans szB a20.size
      have hb_12 := hb_12.upd a20 n_3__12.symm
      have hC := hC.upd a20 (.inl (.inl (.inl (.inl rfl))))
      have hb_15 := hb_15.upd a20 n_3__15.symm
      have hb_3 : Has w20 b_3 ([.slice nd' C.nodes.length ncd, .slice fd' C.free.length fcd]) _ := hb_3.now (by kernel_rfl)
      refine RL.nil (RC.back ?_)
      refine RC.region rfl ?_
      refine RL.ev (.as (.bin rfl rfl rfl) (wi64 (y := ((ρ + 1 : Nat) : Int)) (by omega) (by omega))) rfl rfl ?_
      refine RL.ev (.move rfl) rfl rfl ?_
      exact RL.nil (fun a ka => ⟨(ρ + 1, C, (nd', fd', ncd, fcd), pl, (a_u, c_u)), ⟨⟨by omega, hFC, fun h => absurd h (by omega), fun _ => hpc, hnC, hfC⟩, hb_3, o5, hC.weaken (fun k h => h.elim (fun e => .inl (.inl (.inl (.inl e)))) (fun e => .inl (.inl (.inr e)))), szB, S⟩, by omega, ka.keep (keep_of (by repeat (first | exact trivial | refine And.intro rfl ?_)))⟩)
  ·
    refine RC.exit rfl (RC.back ?_)
    refine RC.seq ?_
    refine RC.region rfl ?_
    refine RL.call rfl ok12 (c_alive4 w4) rfl rfl ?_
    rintro _ w21 ⟨rfl, s22⟩
    have S := S.trans s22
    have hb_3 := hb_3.sub s22
    have o5 := o5.sub s22
    have hI := hI.sub s22
    have szB := Nat.le_trans szB s22.size
    refine RL.ev (.move rfl) rfl rfl ?_
    refine RL.ev (.move rfl) rfl rfl ?_
    refine RL.ev (.as (v' := .bool true) (.bin rfl rfl rfl) (congrArg Value.bool (decide_eq_true (rfl)))) rfl rfl ?_
    refine RL.ev (.pick_t rfl rfl) rfl rfl ?_
    refine RL.ev (.move rfl) rfl rfl ?_
    refine RL.ev (.loadR ([.slice na A.nodes.length nc, .slice fa A.free.length fc]) sh25 rfl hb_3.row rfl) rfl rfl ?_
    refine RL.call rfl ok14 ((aokB_yes hF.ok ▸ c_aRight A na fa nc fc w21 hI.now)) rfl rfl ?_
    rintro _ w23 ⟨rfl, s24⟩
    have S := S.trans s24
    have hb_3 := hb_3.sub s24
    have o5 := o5.sub s24
    have hI := hI.sub s24
    have szB := Nat.le_trans szB s24.size
    refine RL.ev (.pick_t rfl rfl) rfl rfl ?_
    refine RL.ev (.assign rfl) rfl rfl ?_
    refine RL.nil (RC.back ?_)
    refine RC.done (rs := [.tmp 2]) (vs := [_]) rfl rfl ⟨rfl, trivial⟩ ?_
    -- end 1
    exact ⟨rfl, S⟩
end Go.Proofs.Ytfcmbojlflgpmaa
