/-
  The statement ArenaKeeps.
-/
import Derived.Test.YtfcmbojlflgpmaaArenaCalls
import Derived.Test.YtfcmbojlflgpmaaArenaKeepP
import Derived.Test.YtfcmbojlflgpmaaFt
set_option linter.unusedVariables false
set_option linter.unusedSimpArgs false
namespace Go.Proofs.Ytfcmbojlflgpmaa
open Go Go.XL

structure ActT where
  drop : Bool
  kind : Int
  at_ : Int
def ActT.cells (z : ActT) : List Value := [.bool z.drop, .int .i64 z.kind, .int .i64 z.at_]
def ActT.ok (z : ActT) : Prop := I64 z.kind ∧ I64 z.at_
theorem fit_act (r : List Value) (h : fitsR [none, some .i64, some .i64] r) : ∃ x : ActT, r = x.cells ∧ x.ok := by
  obtain ⟨_, _, rfl, h0, h⟩ := fitsR_cons h
  obtain ⟨_, _, rfl, h1, h⟩ := fitsR_cons h
  obtain ⟨_, _, rfl, h2, h⟩ := fitsR_cons h
  obtain rfl := fitsR_nil h
  obtain ⟨b, rfl⟩ := fitR_bool h0
  obtain ⟨a1, rfl, g1⟩ := fitI h1
  obtain ⟨a2, rfl, g2⟩ := fitI h2
  exact ⟨⟨b, a1, a2⟩, rfl, g1, g2⟩
section
variable {H : Type} {enc : TypeId × Value → H} {W : World} {base : Nat} {sp : Nat → Bool} {held : Bool} {v : Value} {d : DataW H} {ps : List MemPlace} {r : Reach} {b : Nat}
theorem open_acts (hok : Value.okWide Try.prog W r b 39 v) (h : DataW.Trod enc Try.prog W base sp held 39 v d ps) : ∃ (a : Option Addr) (l : List ActT) (c : Nat), v = .slice a l.length c ∧ l.length ≤ c ∧ c ≤ maxLen ∧ Sl W a 3 (l.map ActT.cells) ∧ ∀ x ∈ l, x.ok :=
  open_sl ActT.cells ActT.ok sl39 fk43 rfl fit_act hok h
end
theorem idx_map {α β : Type} {l : List α} {f : α → β} {j : Nat} (h : j < l.length) : 0 ≤ (j : Int) ∧ (j : Int) < ((l.map f).length : Nat) := by rw [List.length_map]; omega
theorem bne_iff {p q : Prop} [Decidable p] [Decidable q] (h : p ↔ q) : (!(decide p == decide q)) = false := by cases hp : decide p <;> cases hq : decide q <;> simp_all
theorem place_node {r : Int} (h : 0 ≤ placeR r) : placeR r = r % 65536 - 1 := by
  unfold placeR at *
  split at h
  · rw [if_pos ‹_›]
  · omega
theorem make_two {A B : Ar} {x : Node} {r e : Int} {live n : Nat} (hm : mayMake A x) (h0 : e = 0 → mayMake A x ∧ 0 < A.free.length ∧ B = makeA A x ∧ r = makeR A) (h1 : ¬ e = 0 → B = ar0 ∧ r = 0 ∧ (¬ mayMake A x ∧ e = 1 ∨ mayMake A x ∧ A.free.length = 0 ∧ e = 2)) (hl : live + A.free.length = n) : (e = 2 ↔ (live : Int) = n) ∧ (¬ e = 0 → e = 2) := by
  by_cases he : e = 0
  · have := (h0 he).2.1; exact ⟨by omega, fun h => absurd he h⟩
  · obtain ⟨_, _, h | h⟩ := h1 he
    · exact absurd hm h.1
    · exact ⟨by omega, fun _ => h.2.2⟩
def nK (z : ActT) (last : Int) : Node := ⟨1 + z.kind % 9, 0, z.at_, 0, 0, last, 0, 0, 0, 0, 0, 0, 0, 0, 0, 0⟩
theorem nK_ok {z : ActT} {last : Int} (h2 : I64 z.at_) (hl : U64 last) : (nK z last).ok := by
  refine ⟨?_, z64, h2, z64, z64, fun k hk => ?_, z64, z64⟩
  · show I64 (1 + z.kind % 9); unfold I64; omega
  · simp only [Node.kids, nK, List.mem_cons, List.not_mem_nil, or_false] at hk
    rcases hk with rfl | rfl | rfl | rfl | rfl | rfl | rfl | rfl | rfl <;> first | exact hl | exact zu64
theorem nK_may {A : Ar} {z : ActT} {last : Int} (hA : AOk A) (hl : rightR last = true) : mayMake A (nK z last) := by
  refine ⟨hA, by show 1 ≤ 1 + z.kind % 9; omega, by show 1 + z.kind % 9 ≤ 100; omega, ?_⟩
  rw [well_iff]
  refine ⟨⟨Int.le_refl 0, (show (0 : Int) ≤ 1048576 by omega), Int.le_refl 0, (show (0 : Int) ≤ 9 by omega), Int.le_refl 0, (show (0 : Int) ≤ 9 by omega)⟩, ?_⟩
  simp only [Node.kids, nK, x0, List.all_cons, hl, List.all_nil, Bool.and_true, Bool.true_and]
  decide
set_option maxHeartbeats 4000000 in
theorem law_ArenaKeeps (w : World) (a0 : Int) (w0 : (Lit.int .i64 a0).wf = true) (l : List ActT) (pa : Option Addr) (pc : Nat) (hlc : l.length ≤ pc) (hs : Sl w pa 3 (l.map ActT.cells)) (hli : ∀ x ∈ l, x.ok) :
    FC Try.prog 4 [.int .i64 a0, .slice pa l.length pc] w (Val (.bool true) w) := by
  have ha0 := wfI w0
  have nm := norm_mod a0 12 (by decide)
  have h12 : 0 ≤ a0 % 12 ∧ a0 % 12 < 12 := by omega
  obtain ⟨n, hn⟩ : ∃ n : Nat, (n : Int) = 1 + a0 % 12 := ⟨(1 + a0 % 12).toNat, by omega⟩
  have hn1 : 1 ≤ n ∧ n ≤ 512 := by omega
  have hn12 : n ≤ 12 := by omega
  refine FC.intro Try.func4 rfl Try.ntmps4 rfl ?_
  have S := Sub.refl w
  refine RC.seq ?_
  refine RC.region rfl ?_
  refine RL.ev (.assign rfl) rfl rfl ?_
  refine RL.nil (RC.back ?_)
  refine RC.seq ?_
  refine RC.region rfl ?_
  refine RL.ev (.move rfl) rfl rfl ?_
  refine RL.ev (.rem rfl rfl (by decide)) rfl rfl ?_
  refine RL.ev (.as (.bin rfl rfl rfl) (wi64 (y := a0.tmod 12 + 12) (by rfl) (by omega))) rfl rfl ?_
  refine RL.ev (.as (v' := .int .i64 (a0 % 12)) (.rem rfl rfl (by decide)) (by rw [nm.2.2])) rfl rfl ?_
  refine RL.ev (.as (.bin rfl rfl rfl) (wi64 (y := (n : Int)) (by omega) (by omega))) rfl rfl ?_
  refine RL.ev (.assign rfl) rfl rfl ?_
  refine RL.nil (RC.back ?_)
  refine RC.seq ?_
  refine RC.region rfl ?_
  refine RL.ev (.move rfl) rfl rfl ?_
  refine RL.call rfl ok15 (c_aNew n hn1 w) rfl rfl ?_
  rintro _ w1 ⟨na0, fa0, nc0, fc0, rfl, hnc0, hfc0, hn0, s2⟩
  have hI := Ft.new hn0 s2
  have S := S.trans s2
  refine RL.ev (.move rfl) rfl rfl ?_
  refine RL.ev (.extract rfl rfl) rfl rfl ?_
  refine RL.ev (.extract rfl rfl) rfl rfl ?_
  refine RL.alloc ze25 rfl rfl (fun b_5 w_5 e_5 z_5 hb_5 s_5 => ?_)
  have ge_5 := S.le e_5
  have d_hI_b_5 := hI.neNew e_5
  have S := S.trans s_5
  have hI := hI.sub s_5
  refine RL.store sh25 rfl rfl rfl hb_5 (by exact Nat.le_of_ble_eq_true rfl) (by rfl) rfl (fun w3 z3 hb_5 a3 => ?_)
  have S := S.upd a3 ge_5
  have hI := hI.updD a3 d_hI_b_5
  have hb_5 : Has w3 b_5 ([.slice na0 (newA n).nodes.length nc0, .slice fa0 (newA n).free.length fc0]) _ := hb_5.now (by kernel_rfl)
  refine RL.ev (.assign rfl) rfl rfl ?_
  refine RL.nil (RC.back ?_)
  refine RC.seq ?_
  refine RC.region rfl ?_
  refine RL.ev (.assign rfl) rfl rfl ?_
  refine RL.nil (RC.back ?_)
  refine RC.seq ?_
  refine RC.region rfl ?_
  refine RL.ev (.assign rfl) rfl rfl ?_
  refine RL.nil (RC.back ?_)
  refine RC.seq ?_
  refine RC.region rfl ?_
  refine RL.ev (.assign rfl) rfl rfl ?_
  refine RL.ev (.assign rfl) rfl rfl ?_
  refine RL.nil (RC.back ?_)
  refine RC.seq ?_
  refine RC.seq ?_
  refine RC.region rfl ?_
  refine RL.ev (.move rfl) rfl rfl ?_
  refine RL.ev (.len sl39 rfl) rfl rfl ?_
  refine RL.ev (.move rfl) rfl rfl ?_
  obtain ⟨E, hE⟩ : ∃ E, E = w3.heap.size := ⟨_, rfl⟩
  have lt5 := hb_5.lt
  have szS := S.size
  rw [← hE] at lt5 szS
  refine RL.nil (RC.back ?_)
  refine RC.block ?_
  refine RC.loop (α := Nat × Ar × (Option Addr × Option Addr × Nat × Nat) × List Int × List Node × Nat × Int × (Option Addr × Nat × Nat) × (Option Addr × Nat × Nat) × (Nat → Prop)) (fun x => [(0, .int .i64 (n : Int)), (5, .pointer (some ⟨b_5, 0, none⟩)), (6, .int .i64 0), (7, .slice x.2.2.2.2.2.2.2.1.1 x.2.2.2.2.2.2.2.1.2.1 x.2.2.2.2.2.2.2.1.2.2), (8, .slice x.2.2.2.2.2.2.2.2.1.1 x.2.2.2.2.2.2.2.2.1.2.1 x.2.2.2.2.2.2.2.2.1.2.2), (9, .int .i64 (x.2.2.2.2.2.1 : Int)), (10, .int .u64 x.2.2.2.2.2.2.1), (36, .slice pa l.length pc), (37, .int .i64 (l.length : Int)), (38, .int .i64 (x.1 : Int))]) (fun x w4 => (x.1 ≤ l.length ∧ x.1 ≤ 40 ∧ Kp n x.1 x.2.1 x.2.2.2.1 x.2.2.2.2.1 x.2.2.2.2.2.1 x.2.2.2.2.2.2.1 ∧ x.2.1.nodes.length ≤ x.2.2.1.2.2.1 ∧ x.2.1.free.length ≤ x.2.2.1.2.2.2) ∧ Has w4 b_5 [.slice x.2.2.1.1 x.2.1.nodes.length x.2.2.1.2.2.1, .slice x.2.2.1.2.1 x.2.1.free.length x.2.2.1.2.2.2] 25 ∧ Own E w4 32 1 (.slice x.2.2.2.2.2.2.2.1.1 x.2.2.2.2.2.2.2.1.2.1 x.2.2.2.2.2.2.2.1.2.2) (x.2.2.2.1.map fun x => [u6 x]) ∧ Own E w4 35 16 (.slice x.2.2.2.2.2.2.2.2.1.1 x.2.2.2.2.2.2.2.2.1.2.1 x.2.2.2.2.2.2.2.2.1.2.2) (x.2.2.2.2.1.map Node.cells) ∧ Ft x.2.2.2.2.2.2.2.2.2 (fun u => ArR u x.2.2.1.1 x.2.2.1.2.1 x.2.1) w4 ∧ (∀ k, x.2.2.2.2.2.2.2.2.2 k → k ≠ b_5) ∧ (∀ k, ob (.slice x.2.2.2.2.2.2.2.1.1 x.2.2.2.2.2.2.2.1.2.1 x.2.2.2.2.2.2.2.1.2.2) = some k → x.2.2.2.2.2.2.2.2.2 k → False) ∧ (∀ k, ob (.slice x.2.2.2.2.2.2.2.2.1.1 x.2.2.2.2.2.2.2.2.1.2.1 x.2.2.2.2.2.2.2.2.1.2.2) = some k → x.2.2.2.2.2.2.2.2.2 k → False) ∧ (∀ k, ob (.slice x.2.2.2.2.2.2.2.1.1 x.2.2.2.2.2.2.2.1.2.1 x.2.2.2.2.2.2.2.1.2.2) = some k → ob (.slice x.2.2.2.2.2.2.2.2.1.1 x.2.2.2.2.2.2.2.2.1.2.1 x.2.2.2.2.2.2.2.2.1.2.2) = some k → False) ∧ E ≤ w4.heap.size ∧ Sub w w4) (fun x => l.length - x.1) (0, newA n, (na0, fa0, nc0, fc0), [], [], 0, 0, (none, 0, 0), (none, 0, 0), _) (keep_of (by repeat (first | exact trivial | refine And.intro rfl ?_))) (⟨⟨Nat.zero_le _, Nat.zero_le _, Kp.new hn1, hnc0, hfc0⟩, hb_5, Own.nil _ _ _ _, Own.nil _ _ _ _, hI, d_hI_b_5, fun k hk => by simp [ob, Value.ownBlock] at hk, fun k hk => by simp [ob, Value.ownBlock] at hk, fun k hk => by simp [ob, Value.ownBlock] at hk, by omega, S⟩) (fun x w4 hJ => ?_)
  obtain ⟨i, A, ⟨na, fa, nc, fc⟩, refs, nodes, live, last, ⟨a7, m7, c7⟩, ⟨a8, m8, c8⟩, M⟩ := x; obtain ⟨⟨hi, hi40, hK, hnc, hfc⟩, hb_5, o7, o8, hI, dI5, d7I, d8I, d78, szB, S⟩ := hJ; simp only [] at hi hi40 hK hnc hfc hb_5 o7 o8 hI dI5 d7I d8I d78; obtain rfl := o7.sl.2; obtain rfl := o8.sl.2; have hrl := hK.rl; have hrle := hK.rle; have hlive := hK.live; have hAl := hK.len; have hmay0 := hK.lastR
  refine RC.seq ?_
  refine RC.region rfl ?_
  refine RL.ev (.bin rfl rfl rfl) rfl rfl ?_
  refine RL.nil (RC.back ?_)
  refine RC.seq ?_
  refine RC.cond_dec rfl (fun h5 => ?_) (fun h5 => ?_)
  ·
    obtain ⟨z, hz⟩ := getSome (l := l) (i := i) (by omega)
    obtain ⟨hzk, hza⟩ := hli z (List.mem_of_getElem? hz)
    have d7_5 : ∀ k, ob (.slice a7 (refs.map fun x => [u6 x]).length c7) = some k → k ≠ b_5 := fun k hk e => absurd (o7.ge k hk).1 (by omega)
    have d8_5 : ∀ k, ob (.slice a8 (nodes.map Node.cells).length c8) = some k → k ≠ b_5 := fun k hk e => absurd (o8.ge k hk).1 (by omega)
    refine RC.skip (RC.back ?_)
    refine RC.seq ?_
    refine RC.block ?_
    refine RC.seq ?_
    refine RC.region rfl ?_
    refine RL.ev (.move rfl) rfl rfl ?_
    refine RL.ev (.indexS sl39 rfl rfl (by omega) (hs.is (i := 0) (by simp only [List.length_map]; omega))) rfl rfl ?_
    refine RL.ev (.loadR (z.cells) sh43 rfl ((hs.sub S).rowAt (enc := ActT.cells) (i := i) hz) rfl) rfl rfl ?_
    refine RL.alloc ze43 rfl rfl (fun b_12 w_12 e_12 z_12 hb_12 s_12 => ?_)
    have ge_12 := S.le e_12
    have n_5__12 := hb_5.ne e_12
    have d_o7_b_12 := o7.neNew e_12
    have d_o8_b_12 := o8.neNew e_12
    have d_hI_b_12 := hI.neNew e_12
    have S := S.trans s_12
    have hb_5 := hb_5.sub s_12
    have o7 := o7.sub s_12
    have o8 := o8.sub s_12
    have hI := hI.sub s_12
    have szB := Nat.le_trans szB s_12.size
    refine RL.ev (.assign rfl) rfl rfl ?_
    refine RL.store sh43 rfl rfl rfl hb_12 (by exact Nat.le_of_ble_eq_true rfl) (by rfl) rfl (fun w6 z6 hb_12 a6 => ?_)
    have S := S.upd a6 ge_12
    have hb_5 := hb_5.upd a6 n_5__12
    have o7 := o7.updD a6 d_o7_b_12
    have o8 := o8.updD a6 d_o8_b_12
    have hI := hI.updD a6 d_hI_b_12
    have szB := Nat.le_trans szB a6.size
    have hb_12 : Has w6 b_12 (z.cells) _ := hb_12.now (by kernel_rfl)
    refine RL.nil (RC.back ?_)
    refine RC.seq ?_
    refine RC.seq ?_
    refine RC.region rfl ?_
    refine RL.ev (.move rfl) rfl rfl ?_
    refine RL.ev (.bin rfl rfl rfl) rfl rfl ?_
    refine RL.nil (RC.back ?_)
    refine RC.cond_dec rfl (fun h7 => ?_) (fun h7 => ?_)
    ·
      refine RC.exit rfl (RC.back ?_)
      refine RC.seq ?_
      refine RC.region rfl ?_
      refine RL.call rfl ok12 (c_alive4 w6) rfl rfl ?_
      rintro _ w8 ⟨rfl, s9⟩
      have S := S.trans s9
      have hb_5 := hb_5.sub s9
      have o7 := o7.sub s9
      have o8 := o8.sub s9
      have hI := hI.sub s9
      have szB := Nat.le_trans szB s9.size
      have hb_12 := hb_12.sub s9
      refine RL.ev (.move rfl) rfl rfl ?_
      refine RL.ev (.move rfl) rfl rfl ?_
      refine RL.ev (.as (v' := .bool true) (.bin rfl rfl rfl) (congrArg Value.bool (decide_eq_true (rfl)))) rfl rfl ?_
      refine RL.ev (.pick_t rfl rfl) rfl rfl ?_
      refine RL.ev (.move rfl) rfl rfl ?_
      refine RL.ev (.field0 fo25_1 rfl) rfl rfl ?_
      refine RL.ev (.load1 sh23 rfl (hb_5.cell rfl)) rfl rfl ?_
      refine RL.ev (.len sl23 rfl) rfl rfl ?_
      refine RL.ev (.move rfl) rfl rfl ?_
      refine RL.ev (.move rfl) rfl rfl ?_
      refine RL.ev (.as (.bin rfl rfl rfl) (wi64 (y := (n : Int) - live) (by rfl) (by omega))) rfl rfl ?_
      refine RL.ev (.as (v' := .bool true) (.bin rfl rfl rfl) (congrArg Value.bool (decide_eq_true (by have := hlive; omega)))) rfl rfl ?_
      refine RL.ev (.pick_t rfl rfl) rfl rfl ?_
      refine RL.ev (.move rfl) rfl rfl ?_
      refine RL.ev (.loadR ([.slice na A.nodes.length nc, .slice fa A.free.length fc]) sh25 rfl hb_5.row rfl) rfl rfl ?_
      refine RL.call rfl ok14 ((aokB_yes hK.ok ▸ c_aRight A na fa nc fc w8 hI.now)) rfl rfl ?_
      rintro _ w10 ⟨rfl, s11⟩
      have S := S.trans s11
      have hb_5 := hb_5.sub s11
      have o7 := o7.sub s11
      have o8 := o8.sub s11
      have hI := hI.sub s11
      have szB := Nat.le_trans szB s11.size
      have hb_12 := hb_12.sub s11
      refine RL.ev (.pick_t rfl rfl) rfl rfl ?_
      refine RL.ev (.assign rfl) rfl rfl ?_
      refine RL.nil (RC.back ?_)
      refine RC.done (rs := [.tmp 4]) (vs := [_]) rfl rfl ⟨rfl, trivial⟩ ?_
      -- end 1
      exact ⟨rfl, S⟩
    ·
      have hi39 : i < 40 := (by omega)
      refine RC.skip (RC.back ?_)
      refine RC.cutx (α := Unit) (fun _ => [(0, .int .i64 (n : Int)), (5, .pointer (some ⟨b_5, 0, none⟩)), (6, .int .i64 0), (7, .slice a7 (refs.map fun x => [u6 x]).length c7), (8, .slice a8 (nodes.map Node.cells).length c8), (9, .int .i64 (live : Int)), (10, .int .u64 last), (36, .slice pa l.length pc), (37, .int .i64 (l.length : Int)), (38, .int .i64 (i : Int)), (12, .pointer (some ⟨b_12, 0, none⟩))]) (fun _ w12 => Has w12 b_5 [.slice na A.nodes.length nc, .slice fa A.free.length fc] 25 ∧ Own E w12 32 1 (.slice a7 (refs.map fun x => [u6 x]).length c7) (refs.map fun x => [u6 x]) ∧ Own E w12 35 16 (.slice a8 (nodes.map Node.cells).length c8) (nodes.map Node.cells) ∧ Ft M (fun u => ArR u na fa A) w12 ∧ (∀ k, M k → k ≠ b_5) ∧ (∀ k, ob (.slice a7 (refs.map fun x => [u6 x]).length c7) = some k → M k → False) ∧ (∀ k, ob (.slice a8 (nodes.map Node.cells).length c8) = some k → M k → False) ∧ (∀ k, ob (.slice a7 (refs.map fun x => [u6 x]).length c7) = some k → ob (.slice a8 (nodes.map Node.cells).length c8) = some k → False) ∧ E ≤ w12.heap.size ∧ Sub w w12 ∧ Has w12 b_12 z.cells 43 ∧ w.heap.size ≤ b_12) ?_ (fun _ w12 hJ => ?_)
      ·
        refine RC.seq ?_
        refine RC.region rfl ?_
        refine RL.ev (.field0 fo43_0 rfl) rfl rfl ?_
        refine RL.ev (.load1 sh4 rfl (hb_12.cell rfl)) rfl rfl ?_
        refine RL.ev (.move rfl) rfl rfl ?_
        refine RL.splitB 47 rfl (fun h13 => ?_) (fun h13 => ?_)
        ·
          refine RL.ev (.move rfl) rfl rfl ?_
          refine RL.ev (.as (v' := .int .i64 (refs.length : Int)) (.len sl41 rfl) (by rw [List.length_map])) rfl rfl ?_
          refine RL.ev (.bin rfl rfl rfl) rfl rfl ?_
          refine RL.ev (.pick_t rfl rfl) rfl rfl ?_
          refine RL.nil (RC.back ?_)
          refine RC.cond_dec rfl (fun h14 => ?_) (fun h14 => ?_)
          ·
            obtain ⟨j, hj⟩ : ∃ j : Nat, (j : Int) = z.at_ % (refs.length : Int) := ⟨(z.at_ % (refs.length : Int)).toNat, by have := Int.emod_nonneg z.at_ (show (refs.length : Int) ≠ 0 by omega); omega⟩
            have hjl : j < refs.length := (by have := Int.emod_lt_of_pos z.at_ (show (0 : Int) < refs.length by omega); omega)
            have nm2 := norm_mod z.at_ refs.length (by omega)
            obtain ⟨r, hr⟩ := getSome (l := refs) (i := j) hjl
            obtain ⟨m, hm⟩ := getSome (l := nodes) (i := j) (by omega)
            have hrU := hK.u r (List.mem_of_getElem? hr)
            obtain ⟨y, ey, hgv, hgs, hgn⟩ := getV_form2 A r
            refine RC.seq ?_
            refine RC.region rfl ?_
            refine RL.ev (.field0 fo43_2 rfl) rfl rfl ?_
            refine RL.ev (.load1 sh3 rfl (hb_12.cell rfl)) rfl rfl ?_
            refine RL.ev (.move rfl) rfl rfl ?_
            refine RL.ev (.as (v' := .int .i64 (refs.length : Int)) (.len sl41 rfl) (by rw [List.length_map])) rfl rfl ?_
            refine RL.ev (.rem rfl rfl (by omega)) rfl rfl ?_
            refine RL.ev (.move rfl) rfl rfl ?_
            refine RL.ev (.as (v' := .int .i64 (refs.length : Int)) (.len sl41 rfl) (by rw [List.length_map])) rfl rfl ?_
            refine RL.ev (.as (.bin rfl rfl rfl) (wi64 (y := z.at_.tmod refs.length + refs.length) (by rfl) (by omega))) rfl rfl ?_
            refine RL.ev (.move rfl) rfl rfl ?_
            refine RL.ev (.as (v' := .int .i64 (refs.length : Int)) (.len sl41 rfl) (by rw [List.length_map])) rfl rfl ?_
            refine RL.ev (.as (v' := .int .i64 (j : Int)) (.rem rfl rfl (by omega)) (by rw [nm2.2.2, hj])) rfl rfl ?_
            refine RL.ev (.assign rfl) rfl rfl ?_
            refine RL.nil (RC.back ?_)
            refine RC.cutx (α := Unit) (fun _ => [(0, .int .i64 (n : Int)), (5, .pointer (some ⟨b_5, 0, none⟩)), (6, .int .i64 0), (7, .slice a7 (refs.map fun x => [u6 x]).length c7), (8, .slice a8 (nodes.map Node.cells).length c8), (9, .int .i64 (live : Int)), (10, .int .u64 last), (36, .slice pa l.length pc), (37, .int .i64 (l.length : Int)), (38, .int .i64 (i : Int)), (13, .int .i64 (j : Int)), (15, .int .i64 ey)]) (fun _ w15 => Has w15 b_5 [.slice na A.nodes.length nc, .slice fa A.free.length fc] 25 ∧ Own E w15 32 1 (.slice a7 (refs.map fun x => [u6 x]).length c7) (refs.map fun x => [u6 x]) ∧ Own E w15 35 16 (.slice a8 (nodes.map Node.cells).length c8) (nodes.map Node.cells) ∧ Ft M (fun u => ArR u na fa A) w15 ∧ (∀ k, M k → k ≠ b_5) ∧ (∀ k, ob (.slice a7 (refs.map fun x => [u6 x]).length c7) = some k → M k → False) ∧ (∀ k, ob (.slice a8 (nodes.map Node.cells).length c8) = some k → M k → False) ∧ (∀ k, ob (.slice a7 (refs.map fun x => [u6 x]).length c7) = some k → ob (.slice a8 (nodes.map Node.cells).length c8) = some k → False) ∧ E ≤ w15.heap.size ∧ Sub w w15) ?_ (fun _ w15 hJ => ?_)
            ·
              refine RC.drawD (fun k => False) [10] w6.heap.size 12 rfl rfl mxo (fun w16 s17 => ?_)
              have hNN : ∀ k, ((False) ∨ w6.heap.size ≤ k) → w.heap.size ≤ k := fun k e => e.elim (fun e => e.elim) (fun e => Nat.le_trans S.size e)
              have ent_S := S.size
              have hN0 : ∀ k, w6.heap.size ≤ k → w.heap.size ≤ k := fun k e => Nat.le_trans S.size e
              have ltD_b_5 := hb_5.lt
              have ltD_o7 := fun k hk => (o7.ge k hk).2
              have ltD_o8 := fun k hk => (o8.ge k hk).2
              have ltD_hI := fun k hk => (hI.ge k hk).2
              have ltD_b_12 := hb_12.lt
              have szD := Nat.le_refl w6.heap.size
              have S := S.trans s17
              have hb_5 := hb_5.sub s17
              have o7 := o7.sub s17
              have o8 := o8.sub s17
              have hI := hI.sub s17
              have szB := Nat.le_trans szB s17.size
              have hb_12 := hb_12.sub s17
              have szD := Nat.le_trans szD s17.size
              refine RD.take 0 rfl (by kernel_rfl) (by kernel_rfl) (by kernel_rfl) (fun w' s' => .loadR ([.slice na A.nodes.length nc, .slice fa A.free.length fc]) sh25 rfl (hb_5.step s' (fun e => e.elim (fun e => e.elim) (fun e => Nat.not_le.2 ltD_b_5 e))).row rfl) rfl rfl ?_
              refine RD.take 1 rfl (by kernel_rfl) (by kernel_rfl) (by kernel_rfl) (fun w' s' => .move rfl) rfl rfl ?_
              refine RD.take 2 rfl (by kernel_rfl) (by kernel_rfl) (by kernel_rfl) (fun w' s' => .move rfl) rfl rfl ?_
              refine RD.take 3 rfl (by kernel_rfl) (by kernel_rfl) (by kernel_rfl) (fun w' s' => .indexS sl41 rfl rfl (idx_map hjl) (o7.sl.1.is (i := 0) (by simp only [List.length_map]; omega))) rfl rfl ?_
              refine RD.take 4 rfl (by kernel_rfl) (by kernel_rfl) (by kernel_rfl) (fun w' s' => .load1 sh32 rfl (((o7.step s' (fun k hk e => e.elim (fun e => e.elim) (Nat.not_le.2 (ltD_o7 k hk)))).sl.1.one (enc := u6) (i := j) hr))) rfl rfl ?_
              refine RD.all [5, 9] (by kernel_rfl) rfl (RDs.cons rfl ?_ (RDs.cons rfl ?_ (RDs.nil)))
              ·
                refine RL.call rfl ok16 (c_aGet A na fa nc fc r hrU w16 hI.now) rfl rfl ?_
                rintro _ w18 ⟨rfl, s19⟩
                have S := S.trans s19
                have hb_5 := hb_5.sub s19
                have o7 := o7.sub s19
                have o8 := o8.sub s19
                have hI := hI.sub s19
                have szB := Nat.le_trans szB s19.size
                have hb_12 := hb_12.sub s19
                have szD := Nat.le_trans szD s19.size
                refine RD.back s19.agr ?_
                refine RD.take 6 rfl (by kernel_rfl) (by kernel_rfl) (by kernel_rfl) (fun w' s' => .as (v' := .tuple #[y.val, .int .i64 ey]) (.move rfl) (by rw [hgv])) rfl rfl ?_
                refine RD.take 7 rfl (by kernel_rfl) (by kernel_rfl) (by kernel_rfl) (fun w' s' => .extract rfl rfl) rfl rfl ?_
                refine RD.take 8 rfl (by kernel_rfl) (by kernel_rfl) (by kernel_rfl) (fun w' s' => .extract rfl rfl) rfl rfl ?_
                refine RD.all [9] (by kernel_rfl) rfl (RDs.cons rfl ?_ (RDs.nil))
                refine RL.alloc ze35 rfl rfl (fun b_14 w_14 e_14 z_14 hb_14 s_14 => ?_)
                have fr_b_14 : w6.heap.size ≤ b_14 := by rw [e_14]; exact szD
                have ge_14 := S.le e_14
                have n_5__14 := hb_5.ne e_14
                have n_12__14 := hb_12.ne e_14
                have d_o7_b_14 := o7.neNew e_14
                have d_o8_b_14 := o8.neNew e_14
                have d_hI_b_14 := hI.neNew e_14
                have S := S.trans s_14
                have hb_5 := hb_5.sub s_14
                have o7 := o7.sub s_14
                have o8 := o8.sub s_14
                have hI := hI.sub s_14
                have szB := Nat.le_trans szB s_14.size
                have hb_12 := hb_12.sub s_14
                have szD := Nat.le_trans szD s_14.size
                refine RD.back s_14.agr ?_
                refine RD.all [10] (by kernel_rfl) rfl (RDs.cons rfl ?_ (RDs.nil))
                refine RL.store sh35 rfl rfl rfl hb_14 (by exact Nat.le_of_ble_eq_true rfl) (by rfl) rfl (fun w20 z20 hb_14 a20 => ?_)
                have S := S.upd a20 ge_14
                have hb_5 := hb_5.upd a20 n_5__14
                have o7 := o7.updD a20 d_o7_b_14
                have o8 := o8.updD a20 d_o8_b_14
                have hI := hI.updD a20 d_hI_b_14
                have szB := Nat.le_trans szB a20.size
                have hb_12 := hb_12.upd a20 n_12__14
                have szD := Nat.le_trans szD a20.size
                have hb_14 : Has w20 b_14 (y.cells) _ := hb_14.now (by kernel_rfl)
                refine RD.backW rfl (a20.mono fun k _ e => e ▸ (.inr fr_b_14)) ?_
                refine RD.take 11 rfl (by kernel_rfl) (by kernel_rfl) (by kernel_rfl) (fun w' s' => .assign rfl) rfl rfl ?_
                exact RD.done (by kernel_rfl) (fun a ka => ⟨(), ⟨hb_5, o7, o8, hI, dI5, d7I, d8I, d78, szB, S⟩, ka.keep (keep_of (by repeat (first | exact trivial | refine And.intro rfl ?_)))⟩)
              ·
                refine RL.alloc ze35 rfl rfl (fun b_14 w_14 e_14 z_14 hb_14 s_14 => ?_)
                have fr_b_14 : w6.heap.size ≤ b_14 := by rw [e_14]; exact szD
                have ge_14 := S.le e_14
                have n_5__14 := hb_5.ne e_14
                have n_12__14 := hb_12.ne e_14
                have d_o7_b_14 := o7.neNew e_14
                have d_o8_b_14 := o8.neNew e_14
                have d_hI_b_14 := hI.neNew e_14
                have S := S.trans s_14
                have hb_5 := hb_5.sub s_14
                have o7 := o7.sub s_14
                have o8 := o8.sub s_14
                have hI := hI.sub s_14
                have szB := Nat.le_trans szB s_14.size
                have hb_12 := hb_12.sub s_14
                have szD := Nat.le_trans szD s_14.size
                refine RD.back s_14.agr ?_
                refine RD.all [5] (by kernel_rfl) rfl (RDs.cons rfl ?_ (RDs.nil))
                refine RL.call rfl ok16 (c_aGet A na fa nc fc r hrU w_14 hI.now) rfl rfl ?_
                rintro _ w21 ⟨rfl, s22⟩
                have S := S.trans s22
                have hb_5 := hb_5.sub s22
                have o7 := o7.sub s22
                have o8 := o8.sub s22
                have hI := hI.sub s22
                have szB := Nat.le_trans szB s22.size
                have hb_12 := hb_12.sub s22
                have szD := Nat.le_trans szD s22.size
                have hb_14 := hb_14.sub s22
                refine RD.back s22.agr ?_
                refine RD.take 6 rfl (by kernel_rfl) (by kernel_rfl) (by kernel_rfl) (fun w' s' => .as (v' := .tuple #[y.val, .int .i64 ey]) (.move rfl) (by rw [hgv])) rfl rfl ?_
                refine RD.take 7 rfl (by kernel_rfl) (by kernel_rfl) (by kernel_rfl) (fun w' s' => .extract rfl rfl) rfl rfl ?_
                refine RD.take 8 rfl (by kernel_rfl) (by kernel_rfl) (by kernel_rfl) (fun w' s' => .extract rfl rfl) rfl rfl ?_
                refine RD.all [10] (by kernel_rfl) rfl (RDs.cons rfl ?_ (RDs.nil))
                refine RL.store sh35 rfl rfl rfl hb_14 (by exact Nat.le_of_ble_eq_true rfl) (by rfl) rfl (fun w23 z23 hb_14 a23 => ?_)
                have S := S.upd a23 ge_14
                have hb_5 := hb_5.upd a23 n_5__14
                have o7 := o7.updD a23 d_o7_b_14
                have o8 := o8.updD a23 d_o8_b_14
                have hI := hI.updD a23 d_hI_b_14
                have szB := Nat.le_trans szB a23.size
                have hb_12 := hb_12.upd a23 n_12__14
                have szD := Nat.le_trans szD a23.size
                have hb_14 : Has w23 b_14 (y.cells) _ := hb_14.now (by kernel_rfl)
                refine RD.backW rfl (a23.mono fun k _ e => e ▸ (.inr fr_b_14)) ?_
                refine RD.take 11 rfl (by kernel_rfl) (by kernel_rfl) (by kernel_rfl) (fun w' s' => .assign rfl) rfl rfl ?_
                exact RD.done (by kernel_rfl) (fun a ka => ⟨(), ⟨hb_5, o7, o8, hI, dI5, d7I, d8I, d78, szB, S⟩, ka.keep (keep_of (by repeat (first | exact trivial | refine And.intro rfl ?_)))⟩)
            obtain ⟨hb_5, o7, o8, hI, dI5, d7I, d8I, d78, szB, S⟩ := hJ
            have d7_5 : ∀ k, ob (.slice a7 (refs.map fun x => [u6 x]).length c7) = some k → k ≠ b_5 := fun k hk e => absurd (o7.ge k hk).1 (by omega)
            have d8_5 : ∀ k, ob (.slice a8 (nodes.map Node.cells).length c8) = some k → k ≠ b_5 := fun k hk e => absurd (o8.ge k hk).1 (by omega)
            refine RC.cutx (α := Ar × (Option Addr × Option Addr × Nat × Nat) × Nat × (Nat → Prop) × Int) (fun y_ => [(0, .int .i64 (n : Int)), (5, .pointer (some ⟨b_5, 0, none⟩)), (6, .int .i64 0), (7, .slice a7 (refs.map fun x => [u6 x]).length c7), (8, .slice a8 (nodes.map Node.cells).length c8), (9, .int .i64 (live : Int)), (10, .int .u64 last), (36, .slice pa l.length pc), (37, .int .i64 (l.length : Int)), (38, .int .i64 (i : Int)), (13, .int .i64 (j : Int)), (15, .int .i64 ey), (16, .pointer (some ⟨y_.2.2.1, 0, none⟩)), (17, .int .i64 y_.2.2.2.2)]) (fun y_ w24 => Has w24 b_5 [.slice na A.nodes.length nc, .slice fa A.free.length fc] 25 ∧ Own E w24 32 1 (.slice a7 (refs.map fun x => [u6 x]).length c7) (refs.map fun x => [u6 x]) ∧ Own E w24 35 16 (.slice a8 (nodes.map Node.cells).length c8) (nodes.map Node.cells) ∧ Ft M (fun u => ArR u na fa A) w24 ∧ (∀ k, M k → k ≠ b_5) ∧ (∀ k, ob (.slice a7 (refs.map fun x => [u6 x]).length c7) = some k → M k → False) ∧ (∀ k, ob (.slice a8 (nodes.map Node.cells).length c8) = some k → M k → False) ∧ (∀ k, ob (.slice a7 (refs.map fun x => [u6 x]).length c7) = some k → ob (.slice a8 (nodes.map Node.cells).length c8) = some k → False) ∧ E ≤ w24.heap.size ∧ Sub w w24 ∧ Has w24 y_.2.2.1 [.slice y_.2.1.1 y_.1.nodes.length y_.2.1.2.2.1, .slice y_.2.1.2.1 y_.1.free.length y_.2.1.2.2.2] 25 ∧ b_5 ≠ y_.2.2.1 ∧ (∀ k, ob (.slice a8 (nodes.map Node.cells).length c8) = some k → k ≠ y_.2.2.1) ∧ Ft y_.2.2.2.1 (fun u => ArR u y_.2.1.1 y_.2.1.2.1 y_.1) w24 ∧ (∀ k, y_.2.2.2.1 k → k ≠ b_5) ∧ (∀ k, ob (.slice a7 (refs.map fun x => [u6 x]).length c7) = some k → y_.2.2.2.1 k → False) ∧ (∀ k, ob (.slice a8 (nodes.map Node.cells).length c8) = some k → y_.2.2.2.1 k → False) ∧ (y_.1.nodes.length ≤ y_.2.1.2.2.1 ∧ y_.1.free.length ≤ y_.2.1.2.2.2 ∧ (y_.2.2.2.2 = 0 → AOk A ∧ dropAll A [r % 65536 - 1] = some y_.1) ∧ (¬ y_.2.2.2.2 = 0 → y_.1 = ar0 ∧ y_.2.2.2.2 = 1 ∧ (¬ AOk A ∨ dropAll A [r % 65536 - 1] = none)))) ?_ (fun y_ w24 hJ => ?_)
            ·
              refine RC.drawD (fun k => False) [14] w15.heap.size 16 rfl rfl mxo (fun w25 s26 => ?_)
              have hNN : ∀ k, ((False) ∨ w15.heap.size ≤ k) → w.heap.size ≤ k := fun k e => e.elim (fun e => e.elim) (fun e => Nat.le_trans S.size e)
              have ent_S := S.size
              have hN0 : ∀ k, w15.heap.size ≤ k → w.heap.size ≤ k := fun k e => Nat.le_trans S.size e
              have ltD_b_5 := hb_5.lt
              have ltD_o7 := fun k hk => (o7.ge k hk).2
              have ltD_o8 := fun k hk => (o8.ge k hk).2
              have ltD_hI := fun k hk => (hI.ge k hk).2
              have szD := Nat.le_refl w15.heap.size
              have S := S.trans s26
              have hb_5 := hb_5.sub s26
              have o7 := o7.sub s26
              have o8 := o8.sub s26
              have hI := hI.sub s26
              have szB := Nat.le_trans szB s26.size
              have szD := Nat.le_trans szD s26.size
              refine RD.take 0 rfl (by kernel_rfl) (by kernel_rfl) (by kernel_rfl) (fun w' s' => .loadR ([.slice na A.nodes.length nc, .slice fa A.free.length fc]) sh25 rfl (hb_5.step s' (fun e => e.elim (fun e => e.elim) (fun e => Nat.not_le.2 ltD_b_5 e))).row rfl) rfl rfl ?_
              refine RD.take 1 rfl (by kernel_rfl) (by kernel_rfl) (by kernel_rfl) (fun w' s' => .move rfl) rfl rfl ?_
              refine RD.take 2 rfl (by kernel_rfl) (by kernel_rfl) (by kernel_rfl) (fun w' s' => .move rfl) rfl rfl ?_
              refine RD.take 3 rfl (by kernel_rfl) (by kernel_rfl) (by kernel_rfl) (fun w' s' => .indexS sl41 rfl rfl (idx_map hjl) (o7.sl.1.is (i := 0) (by simp only [List.length_map]; omega))) rfl rfl ?_
              refine RD.take 4 rfl (by kernel_rfl) (by kernel_rfl) (by kernel_rfl) (fun w' s' => .load1 sh32 rfl (((o7.step s' (fun k hk e => e.elim (fun e => e.elim) (Nat.not_le.2 (ltD_o7 k hk)))).sl.1.one (enc := u6) (i := j) hr))) rfl rfl ?_
              refine RD.take 5 rfl (by kernel_rfl) (by kernel_rfl) (by kernel_rfl) (fun w' s' => .as (v' := .int .u64 (r % 65536)) (.rem rfl rfl (by decide)) (by rw [tmodE hrU.1])) rfl rfl ?_
              refine RD.take 6 rfl (by kernel_rfl) (by kernel_rfl) (by kernel_rfl) (fun w' s' => .as (.conv i32 i3 rfl) (wi64 (y := r % 65536) (by rfl) (by omega))) rfl rfl ?_
              refine RD.take 7 rfl (by kernel_rfl) (by kernel_rfl) (by kernel_rfl) (fun w' s' => .as (.bin rfl rfl rfl) (wi64 (y := r % 65536 - 1) (by rfl) (by omega))) rfl rfl ?_
              refine RD.all [8, 13] (by kernel_rfl) rfl (RDs.cons rfl ?_ (RDs.cons rfl ?_ (RDs.nil)))
              ·
                refine RL.buildSlice1 sl23 _ ze3 rfl rfl rfl rfl rfl rfl rfl (fun b_81 w_81 e_81 z_81 hb_81 s_81 => ?_)
                have fr_b_81 : w15.heap.size ≤ b_81 := by rw [e_81]; exact szD
                have ge_81 := S.le e_81
                have n_5__81 := hb_5.ne e_81
                have d_o7_b_81 := o7.neNew e_81
                have d_o8_b_81 := o8.neNew e_81
                have d_hI_b_81 := hI.neNew e_81
                have S := S.trans s_81
                have hb_5 := hb_5.sub s_81
                have o7 := o7.sub s_81
                have o8 := o8.sub s_81
                have hI := hI.sub s_81
                have szB := Nat.le_trans szB s_81.size
                have szD := Nat.le_trans szD s_81.size
                refine RD.back s_81.agr ?_
                refine RD.all [9, 13] (by kernel_rfl) rfl (RDs.cons rfl ?_ (RDs.cons rfl ?_ (RDs.nil)))
                ·
                  refine RL.call rfl ok10 (c_aDrop A na fa nc fc [r % 65536 - 1] (some ⟨b_81, 0, none⟩) 1 (Nat.le_of_ble_eq_true rfl) (fun x hx => by rw [List.mem_singleton] at hx; rw [hx]; unfold I64; omega) w_81 hI.now hfc (Has.sl1 (enc := i6) (l := [r % 65536 - 1]) hb_81)) rfl rfl ?_
                  rintro _ w27 ⟨s28, hr2⟩
                  obtain ⟨nb, fb, ncb, fcb, B, g, rfl, hnB, hfB, hiB, hg0, hg1⟩ := drop_form hr2
                  have d_hB_b_5 := neFt (w' := w27) dI5 hb_5.lt
                  have dd_o7_hB := ddFt (w' := w27) d7I (fun k hk => (o7.ge k hk).2)
                  have dd_o8_hB := ddFt (w' := w27) d8I (fun k hk => (o8.ge k hk).2)
                  have d_hB_b_81 := neFt (w' := w27) d_hI_b_81 hb_81.lt
                  have hB := hI.ans hiB s28
                  have S := S.trans s28
                  have hb_5 := hb_5.sub s28
                  have o7 := o7.sub s28
                  have o8 := o8.sub s28
                  have hI := hI.sub s28
                  have szB := Nat.le_trans szB s28.size
                  have szD := Nat.le_trans szD s28.size
                  have hb_81 := hb_81.sub s28
                  refine RD.back s28.agr ?_
                  refine RD.take 10 rfl (by kernel_rfl) (by kernel_rfl) (by kernel_rfl) (fun w' s' => .move rfl) rfl rfl ?_
                  refine RD.take 11 rfl (by kernel_rfl) (by kernel_rfl) (by kernel_rfl) (fun w' s' => .extract rfl rfl) rfl rfl ?_
                  refine RD.take 12 rfl (by kernel_rfl) (by kernel_rfl) (by kernel_rfl) (fun w' s' => .extract rfl rfl) rfl rfl ?_
                  refine RD.all [13] (by kernel_rfl) rfl (RDs.cons rfl ?_ (RDs.nil))
                  refine RL.alloc ze25 rfl rfl (fun b_16 w_16 e_16 z_16 hb_16 s_16 => ?_)
                  have fr_b_16 : w15.heap.size ≤ b_16 := by rw [e_16]; exact szD
                  have ge_16 := S.le e_16
                  have n_5__16 := hb_5.ne e_16
                  have n_81__16 := hb_81.ne e_16
                  have d_o7_b_16 := o7.neNew e_16
                  have d_o8_b_16 := o8.neNew e_16
                  have d_hI_b_16 := hI.neNew e_16
                  have d_hB_b_16 := hB.neNew e_16
                  have S := S.trans s_16
                  have hb_5 := hb_5.sub s_16
                  have o7 := o7.sub s_16
                  have o8 := o8.sub s_16
                  have hI := hI.sub s_16
                  have szB := Nat.le_trans szB s_16.size
                  have szD := Nat.le_trans szD s_16.size
                  have hb_81 := hb_81.sub s_16
                  have hB := hB.sub s_16
                  refine RD.back s_16.agr ?_
                  refine RD.all [14] (by kernel_rfl) rfl (RDs.cons rfl ?_ (RDs.nil))
                  refine RL.store sh25 rfl rfl rfl hb_16 (by exact Nat.le_of_ble_eq_true rfl) (by rfl) rfl (fun w29 z29 hb_16 a29 => ?_)
                  have S := S.upd a29 ge_16
                  have hb_5 := hb_5.upd a29 n_5__16
                  have o7 := o7.updD a29 d_o7_b_16
                  have o8 := o8.updD a29 d_o8_b_16
                  have hI := hI.updD a29 d_hI_b_16
                  have szB := Nat.le_trans szB a29.size
                  have szD := Nat.le_trans szD a29.size
                  have hb_81 := hb_81.upd a29 n_81__16
                  have hB := hB.updD a29 d_hB_b_16
                  have hb_16 : Has w29 b_16 ([.slice nb B.nodes.length ncb, .slice fb B.free.length fcb]) _ := hb_16.now (by kernel_rfl)
                  refine RD.backW rfl (a29.mono fun k _ e => e ▸ (.inr fr_b_16)) ?_
                  refine RD.take 15 rfl (by kernel_rfl) (by kernel_rfl) (by kernel_rfl) (fun w' s' => .assign rfl) rfl rfl ?_
                  exact RD.done (by kernel_rfl) (fun a ka => ⟨(B, (nb, fb, ncb, fcb), b_16, _, g), ⟨hb_5, o7, o8, hI, dI5, d7I, d8I, d78, szB, S, hb_16, n_5__16, d_o8_b_16, hB, d_hB_b_5, dd_o7_hB, dd_o8_hB, hnB, hfB, hg0, hg1⟩, ka.keep (keep_of (by repeat (first | exact trivial | refine And.intro rfl ?_)))⟩)
                ·
                  refine RL.alloc ze25 rfl rfl (fun b_16 w_16 e_16 z_16 hb_16 s_16 => ?_)
                  have fr_b_16 : w15.heap.size ≤ b_16 := by rw [e_16]; exact szD
                  have ge_16 := S.le e_16
                  have n_5__16 := hb_5.ne e_16
                  have n_81__16 := hb_81.ne e_16
                  have d_o7_b_16 := o7.neNew e_16
                  have d_o8_b_16 := o8.neNew e_16
                  have d_hI_b_16 := hI.neNew e_16
                  have S := S.trans s_16
                  have hb_5 := hb_5.sub s_16
                  have o7 := o7.sub s_16
                  have o8 := o8.sub s_16
                  have hI := hI.sub s_16
                  have szB := Nat.le_trans szB s_16.size
                  have szD := Nat.le_trans szD s_16.size
                  have hb_81 := hb_81.sub s_16
                  refine RD.back s_16.agr ?_
                  refine RD.all [9] (by kernel_rfl) rfl (RDs.cons rfl ?_ (RDs.nil))
                  refine RL.call rfl ok10 (c_aDrop A na fa nc fc [r % 65536 - 1] (some ⟨b_81, 0, none⟩) 1 (Nat.le_of_ble_eq_true rfl) (fun x hx => by rw [List.mem_singleton] at hx; rw [hx]; unfold I64; omega) w_16 hI.now hfc (Has.sl1 (enc := i6) (l := [r % 65536 - 1]) hb_81)) rfl rfl ?_
                  rintro _ w30 ⟨s31, hr2⟩
                  obtain ⟨nb, fb, ncb, fcb, B, g, rfl, hnB, hfB, hiB, hg0, hg1⟩ := drop_form hr2
                  have d_hB_b_5 := neFt (w' := w30) dI5 hb_5.lt
                  have dd_o7_hB := ddFt (w' := w30) d7I (fun k hk => (o7.ge k hk).2)
                  have dd_o8_hB := ddFt (w' := w30) d8I (fun k hk => (o8.ge k hk).2)
                  have d_hB_b_81 := neFt (w' := w30) d_hI_b_81 hb_81.lt
                  have d_hB_b_16 := neFt (w' := w30) d_hI_b_16 hb_16.lt
                  have hB := hI.ans hiB s31
                  have S := S.trans s31
                  have hb_5 := hb_5.sub s31
                  have o7 := o7.sub s31
                  have o8 := o8.sub s31
                  have hI := hI.sub s31
                  have szB := Nat.le_trans szB s31.size
                  have szD := Nat.le_trans szD s31.size
                  have hb_81 := hb_81.sub s31
                  have hb_16 := hb_16.sub s31
                  refine RD.back s31.agr ?_
                  refine RD.take 10 rfl (by kernel_rfl) (by kernel_rfl) (by kernel_rfl) (fun w' s' => .move rfl) rfl rfl ?_
                  refine RD.take 11 rfl (by kernel_rfl) (by kernel_rfl) (by kernel_rfl) (fun w' s' => .extract rfl rfl) rfl rfl ?_
                  refine RD.take 12 rfl (by kernel_rfl) (by kernel_rfl) (by kernel_rfl) (fun w' s' => .extract rfl rfl) rfl rfl ?_
                  refine RD.all [14] (by kernel_rfl) rfl (RDs.cons rfl ?_ (RDs.nil))
                  refine RL.store sh25 rfl rfl rfl hb_16 (by exact Nat.le_of_ble_eq_true rfl) (by rfl) rfl (fun w32 z32 hb_16 a32 => ?_)
                  have S := S.upd a32 ge_16
                  have hb_5 := hb_5.upd a32 n_5__16
                  have o7 := o7.updD a32 d_o7_b_16
                  have o8 := o8.updD a32 d_o8_b_16
                  have hI := hI.updD a32 d_hI_b_16
                  have szB := Nat.le_trans szB a32.size
                  have szD := Nat.le_trans szD a32.size
                  have hb_81 := hb_81.upd a32 n_81__16
                  have hB := hB.updD a32 d_hB_b_16
                  have hb_16 : Has w32 b_16 ([.slice nb B.nodes.length ncb, .slice fb B.free.length fcb]) _ := hb_16.now (by kernel_rfl)
                  refine RD.backW rfl (a32.mono fun k _ e => e ▸ (.inr fr_b_16)) ?_
                  refine RD.take 15 rfl (by kernel_rfl) (by kernel_rfl) (by kernel_rfl) (fun w' s' => .assign rfl) rfl rfl ?_
                  exact RD.done (by kernel_rfl) (fun a ka => ⟨(B, (nb, fb, ncb, fcb), b_16, _, g), ⟨hb_5, o7, o8, hI, dI5, d7I, d8I, d78, szB, S, hb_16, n_5__16, d_o8_b_16, hB, d_hB_b_5, dd_o7_hB, dd_o8_hB, hnB, hfB, hg0, hg1⟩, ka.keep (keep_of (by repeat (first | exact trivial | refine And.intro rfl ?_)))⟩)
              ·
                refine RL.alloc ze25 rfl rfl (fun b_16 w_16 e_16 z_16 hb_16 s_16 => ?_)
                have fr_b_16 : w15.heap.size ≤ b_16 := by rw [e_16]; exact szD
                have ge_16 := S.le e_16
                have n_5__16 := hb_5.ne e_16
                have d_o7_b_16 := o7.neNew e_16
                have d_o8_b_16 := o8.neNew e_16
                have d_hI_b_16 := hI.neNew e_16
                have S := S.trans s_16
                have hb_5 := hb_5.sub s_16
                have o7 := o7.sub s_16
                have o8 := o8.sub s_16
                have hI := hI.sub s_16
                have szB := Nat.le_trans szB s_16.size
                have szD := Nat.le_trans szD s_16.size
                refine RD.back s_16.agr ?_
                refine RD.all [8] (by kernel_rfl) rfl (RDs.cons rfl ?_ (RDs.nil))
                refine RL.buildSlice1 sl23 _ ze3 rfl rfl rfl rfl rfl rfl rfl (fun b_81 w_81 e_81 z_81 hb_81 s_81 => ?_)
                have fr_b_81 : w15.heap.size ≤ b_81 := by rw [e_81]; exact szD
                have ge_81 := S.le e_81
                have n_5__81 := hb_5.ne e_81
                have n_16__81 := hb_16.ne e_81
                have d_o7_b_81 := o7.neNew e_81
                have d_o8_b_81 := o8.neNew e_81
                have d_hI_b_81 := hI.neNew e_81
                have S := S.trans s_81
                have hb_5 := hb_5.sub s_81
                have o7 := o7.sub s_81
                have o8 := o8.sub s_81
                have hI := hI.sub s_81
                have szB := Nat.le_trans szB s_81.size
                have szD := Nat.le_trans szD s_81.size
                have hb_16 := hb_16.sub s_81
                refine RD.back s_81.agr ?_
                refine RD.all [9] (by kernel_rfl) rfl (RDs.cons rfl ?_ (RDs.nil))
                refine RL.call rfl ok10 (c_aDrop A na fa nc fc [r % 65536 - 1] (some ⟨b_81, 0, none⟩) 1 (Nat.le_of_ble_eq_true rfl) (fun x hx => by rw [List.mem_singleton] at hx; rw [hx]; unfold I64; omega) w_81 hI.now hfc (Has.sl1 (enc := i6) (l := [r % 65536 - 1]) hb_81)) rfl rfl ?_
                rintro _ w33 ⟨s34, hr2⟩
                obtain ⟨nb, fb, ncb, fcb, B, g, rfl, hnB, hfB, hiB, hg0, hg1⟩ := drop_form hr2
                have d_hB_b_5 := neFt (w' := w33) dI5 hb_5.lt
                have dd_o7_hB := ddFt (w' := w33) d7I (fun k hk => (o7.ge k hk).2)
                have dd_o8_hB := ddFt (w' := w33) d8I (fun k hk => (o8.ge k hk).2)
                have d_hB_b_16 := neFt (w' := w33) d_hI_b_16 hb_16.lt
                have d_hB_b_81 := neFt (w' := w33) d_hI_b_81 hb_81.lt
                have hB := hI.ans hiB s34
                have S := S.trans s34
                have hb_5 := hb_5.sub s34
                have o7 := o7.sub s34
                have o8 := o8.sub s34
                have hI := hI.sub s34
                have szB := Nat.le_trans szB s34.size
                have szD := Nat.le_trans szD s34.size
                have hb_16 := hb_16.sub s34
                have hb_81 := hb_81.sub s34
                refine RD.back s34.agr ?_
                refine RD.take 10 rfl (by kernel_rfl) (by kernel_rfl) (by kernel_rfl) (fun w' s' => .move rfl) rfl rfl ?_
                refine RD.take 11 rfl (by kernel_rfl) (by kernel_rfl) (by kernel_rfl) (fun w' s' => .extract rfl rfl) rfl rfl ?_
                refine RD.take 12 rfl (by kernel_rfl) (by kernel_rfl) (by kernel_rfl) (fun w' s' => .extract rfl rfl) rfl rfl ?_
                refine RD.all [14] (by kernel_rfl) rfl (RDs.cons rfl ?_ (RDs.nil))
                refine RL.store sh25 rfl rfl rfl hb_16 (by exact Nat.le_of_ble_eq_true rfl) (by rfl) rfl (fun w35 z35 hb_16 a35 => ?_)
                have S := S.upd a35 ge_16
                have hb_5 := hb_5.upd a35 n_5__16
                have o7 := o7.updD a35 d_o7_b_16
                have o8 := o8.updD a35 d_o8_b_16
                have hI := hI.updD a35 d_hI_b_16
                have szB := Nat.le_trans szB a35.size
                have szD := Nat.le_trans szD a35.size
                have hb_81 := hb_81.upd a35 n_16__81.symm
                have hB := hB.updD a35 d_hB_b_16
                have hb_16 : Has w35 b_16 ([.slice nb B.nodes.length ncb, .slice fb B.free.length fcb]) _ := hb_16.now (by kernel_rfl)
                refine RD.backW rfl (a35.mono fun k _ e => e ▸ (.inr fr_b_16)) ?_
                refine RD.take 15 rfl (by kernel_rfl) (by kernel_rfl) (by kernel_rfl) (fun w' s' => .assign rfl) rfl rfl ?_
                exact RD.done (by kernel_rfl) (fun a ka => ⟨(B, (nb, fb, ncb, fcb), b_16, _, g), ⟨hb_5, o7, o8, hI, dI5, d7I, d8I, d78, szB, S, hb_16, n_5__16, d_o8_b_16, hB, d_hB_b_5, dd_o7_hB, dd_o8_hB, hnB, hfB, hg0, hg1⟩, ka.keep (keep_of (by repeat (first | exact trivial | refine And.intro rfl ?_)))⟩)
            obtain ⟨B, ⟨nb, fb, ncb, fcb⟩, b_16, MB, g⟩ := y_
            obtain ⟨hb_5, o7, o8, hI, dI5, d7I, d8I, d78, szB, S, hb_16, n_5__16, d8_16, hB, d_hB_b_5, d7B, d8B, hBp⟩ := hJ
            simp only [] at hb_16 n_5__16 d8_16 hB d_hB_b_5 d7B d8B hBp
            obtain ⟨hnB, hfB, hg0, hg1⟩ := hBp
            have d7_5 : ∀ k, ob (.slice a7 (refs.map fun x => [u6 x]).length c7) = some k → k ≠ b_5 := fun k hk e => absurd (o7.ge k hk).1 (by omega)
            have d8_5 : ∀ k, ob (.slice a8 (nodes.map Node.cells).length c8) = some k → k ≠ b_5 := fun k hk e => absurd (o8.ge k hk).1 (by omega)
            refine RC.seq ?_
            refine RC.seq ?_
            refine RC.region rfl ?_
            refine RL.ev (.move rfl) rfl rfl ?_
            refine RL.ev (.bin rfl rfl rfl) rfl rfl ?_
            refine RL.nil (RC.back ?_)
            refine RC.cond_dec rfl (fun h36 => ?_) (fun h36 => ?_)
            ·
              have hga : ∃ q, getA A r = some q := (by cases hq : getA A r with | none => have := (hgn hq).2; omega | some q => exact ⟨q, rfl⟩)
              obtain ⟨q, hq⟩ := hga
              have hqr := getA_rng hq
              have hpl : placeR r = r % 65536 - 1 := (place_node hqr.1)
              obtain ⟨B2, hB2⟩ := hK.drops hq
              rw [hpl] at hB2
              have hgB : g = 0 ∧ B = B2 := (by by_cases hg : g = 0; exact ⟨hg, by have := (hg0 hg).2; rw [hB2] at this; exact (Option.some.inj this).symm⟩; rcases (hg1 hg).2.2 with h | h; exact absurd hK.ok h; rw [hB2] at h; cases h)
              obtain ⟨hl1, hKd⟩ := hK.drop (B := B) (by omega) hr hq (by rw [hpl, hgB.2]; exact hB2)
              obtain ⟨b_X, cap_X, ex_X, f_X, g_X, k_X, m_X, hb_X, l_X⟩ := o8.has (by rw [List.length_map]; omega)
              simp only [Value.slice.injEq] at f_X
              obtain ⟨rfl, hlen_X, rfl⟩ := f_X
              have ge_X : w.heap.size ≤ b_X := by omega
              have nb_X_b_5 := d8_5 _ rfl
              have nb_X_b_16 := d8_16 _ rfl
              refine RC.seq ?_
              refine RC.seq ?_
              refine RC.region rfl ?_
              refine RL.ev (.move rfl) rfl rfl ?_
              refine RL.ev (.as (v' := .bool false) (.bin rfl rfl rfl) (congrArg Value.bool (decide_eq_false (fun h => h hgB.1)))) rfl rfl ?_
              refine RL.nil (RC.back ?_)
              refine RC.cond_f rfl ?_
              refine RC.skip (RC.back ?_)
              refine RC.seq ?_
              refine RC.region rfl ?_
              refine RL.ev (.move rfl) rfl rfl ?_
              refine RL.ev (.move rfl) rfl rfl ?_
              refine RL.ev (.loadR ([.slice nb B.nodes.length ncb, .slice fb B.free.length fcb]) sh25 rfl hb_16.row rfl) rfl rfl ?_
              refine RL.ev (.buildS ze35 pl35 rfl rfl) rfl rfl ?_
              refine RL.store sh25 rfl rfl rfl hb_5 (by exact Nat.le_of_ble_eq_true rfl) (by rfl) rfl (fun w37 z37 hb_5 a37 => ?_)
              have S := S.upd a37 ge_5
              have o7 := o7.updD a37 d7_5
              have hB := hB.updD a37 d_hB_b_5
              have szB := Nat.le_trans szB a37.size
              have hb_16 := hb_16.upd a37 n_5__16.symm
              have hb_X := hb_X.upd a37 nb_X_b_5
              have hb_5 : Has w37 b_5 ([.slice nb B.nodes.length ncb, .slice fb B.free.length fcb]) _ := hb_5.now (by kernel_rfl)
              refine RL.ev (.indexO sl22 rfl rfl (idx_map (show j < nodes.length by omega))) rfl rfl ?_
              refine RL.store sh35 rfl rfl rfl hb_X (by rw [List.length_append, flat_len (sz := 16) _ (node_rows _), List.length_map]; show _ + 16 ≤ _; omega) (by rfl) rfl (fun w38 z38 hb_X a38 => ?_)
              have S := S.upd a38 ge_X
              have hb_5 := hb_5.upd a38 nb_X_b_5.symm
              have o7 := o7.updD a38 (fun k hk e => (fun k h1 h2 => d78 k h2 h1) k (by rw [e]; rfl) hk)
              have hB := hB.updD a38 (fun k hk e => d8B k (by rw [e]; rfl) hk)
              have szB := Nat.le_trans szB a38.size
              have hb_16 := hb_16.upd a38 nb_X_b_16.symm
              rw [Nat.zero_add] at hb_X
              have hb_X := Has.row_set (r := (bareN 0).cells) hb_X (node_rows _) (by rw [List.length_map]; omega) rfl
              rw [← List.map_set] at hb_X
              refine RL.nil (RC.back ?_)
              refine RC.region rfl ?_
              refine RL.ev (.move rfl) rfl rfl ?_
              refine RL.ev (.as (.bin rfl rfl rfl) (wi64 (y := ((live - 1 : Nat) : Int)) (by omega) (by omega))) rfl rfl ?_
              refine RL.ev (.assign rfl) rfl rfl ?_
              refine RL.nil (RC.back ?_)
              refine RC.exit rfl (RC.back ?_)
              refine RC.region rfl ?_
              refine RL.ev (.as (.bin rfl rfl rfl) (wi64 (y := ((i + 1 : Nat) : Int)) (by omega) (by omega))) rfl rfl ?_
              refine RL.ev (.move rfl) rfl rfl ?_
              exact RL.nil (fun a ka => ⟨(i + 1, B, (nb, fb, ncb, fcb), refs, nodes.set j (bareN 0), live - 1, last, (a7, _, c7), (some ⟨b_X, 0, none⟩, (nodes.map Node.cells).length, c8), MB), ⟨⟨by omega, by omega, hKd, hnB, hfB⟩, hb_5, o7, (by rw [List.map_set]; exact Own.set_row (by rw [← List.map_set]; exact hb_X) (node_rows _) rfl g_X rfl k_X m_X l_X), hB, d_hB_b_5, d7B, d8B, d78, szB, S⟩, by omega, ka.keep (keep_of (by repeat (first | exact trivial | refine And.intro rfl ?_)))⟩)
            ·
              refine RC.skip (RC.back ?_)
              refine RC.exit rfl (RC.back ?_)
              refine RC.region rfl ?_
              refine RL.ev (.as (.bin rfl rfl rfl) (wi64 (y := ((i + 1 : Nat) : Int)) (by omega) (by omega))) rfl rfl ?_
              refine RL.ev (.move rfl) rfl rfl ?_
              exact RL.nil (fun a ka => ⟨(i + 1, A, (na, fa, nc, fc), refs, nodes, live, last, (a7, _, c7), (a8, _, c8), M), ⟨⟨by omega, by omega, hK.skip, hnc, hfc⟩, hb_5, o7, o8, hI, dI5, d7I, d8I, d78, szB, S⟩, by omega, ka.keep (keep_of (by repeat (first | exact trivial | refine And.intro rfl ?_)))⟩)
          ·
            exact RC.skip (fun a ka => ⟨(), ⟨hb_5, o7, o8, hI, dI5, d7I, d8I, d78, szB, S, hb_12, ge_12⟩, ka.keep (keep_of (by repeat (first | exact trivial | refine And.intro rfl ?_)))⟩)
        ·
          refine RL.off rfl rfl ?_
          refine RL.off rfl rfl ?_
          refine RL.off rfl rfl ?_
          refine RL.ev (.pick_f rfl rfl) rfl rfl ?_
          refine RL.nil (RC.back ?_)
          refine RC.cond_f rfl ?_
          exact RC.skip (fun a ka => ⟨(), ⟨hb_5, o7, o8, hI, dI5, d7I, d8I, d78, szB, S, hb_12, ge_12⟩, ka.keep (keep_of (by repeat (first | exact trivial | refine And.intro rfl ?_)))⟩)
      obtain ⟨hb_5, o7, o8, hI, dI5, d7I, d8I, d78, szB, S, hb_12, ge_12⟩ := hJ
      have nmk := norm_mod z.kind 9 (by decide)
      have hxo := nK_ok (z := z) hza hK.lastU
      have hmay := nK_may (z := z) hK.ok hK.lastR
      have d7_5 : ∀ k, ob (.slice a7 (refs.map fun x => [u6 x]).length c7) = some k → k ≠ b_5 := fun k hk e => absurd (o7.ge k hk).1 (by omega)
      have d8_5 : ∀ k, ob (.slice a8 (nodes.map Node.cells).length c8) = some k → k ≠ b_5 := fun k hk e => absurd (o8.ge k hk).1 (by omega)
      refine RC.seq ?_
      refine RC.region rfl ?_
      refine RL.ev (.field0 fo43_1 rfl) rfl rfl ?_
      refine RL.ev (.load1 sh3 rfl (hb_12.cell rfl)) rfl rfl ?_
      refine RL.ev (.rem rfl rfl (by decide)) rfl rfl ?_
      refine RL.ev (.as (.bin rfl rfl rfl) (wi64 (y := z.kind.tmod 9 + 9) (by rfl) (by omega))) rfl rfl ?_
      refine RL.ev (.as (v' := .int .i64 (z.kind % 9)) (.rem rfl rfl (by decide)) (by rw [(norm_mod z.kind 9 (by decide)).2.2])) rfl rfl ?_
      refine RL.ev (.as (.bin rfl rfl rfl) (wi64 (y := 1 + z.kind % 9) (by rfl) (by omega))) rfl rfl ?_
      refine RL.ev (.field0 fo43_2 rfl) rfl rfl ?_
      refine RL.ev (.load1 sh3 rfl (hb_12.cell rfl)) rfl rfl ?_
      refine RL.ev (.buildS ze35 pl35 rfl rfl) rfl rfl ?_
      refine RL.alloc ze35 rfl rfl (fun b_18 w_18 e_18 z_18 hb_18 s_18 => ?_)
      have ge_18 := S.le e_18
      have n_5__18 := hb_5.ne e_18
      have n_12__18 := hb_12.ne e_18
      have d_o7_b_18 := o7.neNew e_18
      have d_o8_b_18 := o8.neNew e_18
      have d_hI_b_18 := hI.neNew e_18
      have S := S.trans s_18
      have hb_5 := hb_5.sub s_18
      have o7 := o7.sub s_18
      have o8 := o8.sub s_18
      have hI := hI.sub s_18
      have szB := Nat.le_trans szB s_18.size
      have hb_12 := hb_12.sub s_18
      refine RL.store sh35 rfl rfl rfl hb_18 (by exact Nat.le_of_ble_eq_true rfl) (by rfl) rfl (fun w39 z39 hb_18 a39 => ?_)
      have S := S.upd a39 ge_18
      have hb_5 := hb_5.upd a39 n_5__18
      have o7 := o7.updD a39 d_o7_b_18
      have o8 := o8.updD a39 d_o8_b_18
      have hI := hI.updD a39 d_hI_b_18
      have szB := Nat.le_trans szB a39.size
      have hb_12 := hb_12.upd a39 n_12__18
      have hb_18 : Has w39 b_18 ((nK z 0).cells) _ := hb_18.now (by kernel_rfl)
      refine RL.nil (RC.back ?_)
      refine RC.seq ?_
      refine RC.region rfl ?_
      refine RL.ev (.move rfl) rfl rfl ?_
      refine RL.ev (.field0 fo35_5 rfl) rfl rfl ?_
      refine RL.ev (.indexArr ar33 rfl rfl (by omega)) rfl rfl ?_
      refine RL.store sh32 rfl rfl rfl hb_18 (by exact Nat.le_of_ble_eq_true rfl) (by rfl) rfl (fun w40 z40 hb_18 a40 => ?_)
      have S := S.upd a40 ge_18
      have hb_5 := hb_5.upd a40 n_5__18
      have o7 := o7.updD a40 d_o7_b_18
      have o8 := o8.updD a40 d_o8_b_18
      have hI := hI.updD a40 d_hI_b_18
      have szB := Nat.le_trans szB a40.size
      have hb_12 := hb_12.upd a40 n_12__18
      have hb_18 : Has w40 b_18 (nK z last).cells 35 := hb_18
      refine RL.nil (RC.back ?_)
      refine RC.seq ?_
      refine RC.region rfl ?_
      refine RL.ev (.loadR ([.slice na A.nodes.length nc, .slice fa A.free.length fc]) sh25 rfl hb_5.row rfl) rfl rfl ?_
      refine RL.ev (.loadR ((nK z last).cells) sh35 rfl hb_18.row rfl) rfl rfl ?_
      refine RL.call rfl ok17 (c_aMake A na fa nc fc (nK z last) hxo w40 hI.now hfc) rfl rfl ?_
      rintro _ w41 ⟨s42, hr2⟩
      obtain ⟨nb, fb, ncb, fcb, B, rB, eB, rfl, hnB, hfB, hiB, he0, he1⟩ := make_form hr2
      have d_hB_b_5 := neFt (w' := w41) dI5 hb_5.lt
      have dd_o7_hB := ddFt (w' := w41) d7I (fun k hk => (o7.ge k hk).2)
      have dd_o8_hB := ddFt (w' := w41) d8I (fun k hk => (o8.ge k hk).2)
      have d_hB_b_12 := neFt (w' := w41) d_hI_b_12 hb_12.lt
      have d_hB_b_18 := neFt (w' := w41) d_hI_b_18 hb_18.lt
      have hB := hI.ans hiB s42
      have S := S.trans s42
      have hb_5 := hb_5.sub s42
      have o7 := o7.sub s42
      have o8 := o8.sub s42
      have hI := hI.sub s42
      have szB := Nat.le_trans szB s42.size
      have hb_12 := hb_12.sub s42
      have hb_18 := hb_18.sub s42
      obtain ⟨MB, hB, d_hB_b_5, d_hB_b_18, dd_o7_hB, dd_o8_hB⟩ : ∃ MB : Nat → Prop, Ft MB (fun u => ArR u nb fb B) w41 ∧ (∀ k, MB k → k ≠ b_5) ∧ (∀ k, MB k → k ≠ b_18) ∧ (∀ k, ob (.slice a7 (refs.map fun x => [u6 x]).length c7) = some k → MB k → False) ∧ (∀ k, ob (.slice a8 (nodes.map Node.cells).length c8) = some k → MB k → False) := ⟨_, hB, d_hB_b_5, d_hB_b_18, dd_o7_hB, dd_o8_hB⟩
      have hcs := make_two hmay he0 he1 hlive
      refine RL.ev (.move rfl) rfl rfl ?_
      refine RL.ev (.extract rfl rfl) rfl rfl ?_
      refine RL.ev (.extract rfl rfl) rfl rfl ?_
      refine RL.ev (.extract rfl rfl) rfl rfl ?_
      refine RL.alloc ze25 rfl rfl (fun b_19 w_19 e_19 z_19 hb_19 s_19 => ?_)
      have ge_19 := S.le e_19
      have n_5__19 := hb_5.ne e_19
      have n_12__19 := hb_12.ne e_19
      have n_18__19 := hb_18.ne e_19
      have d_o7_b_19 := o7.neNew e_19
      have d_o8_b_19 := o8.neNew e_19
      have d_hI_b_19 := hI.neNew e_19
      have d_hB_b_19 := hB.neNew e_19
      have S := S.trans s_19
      have hb_5 := hb_5.sub s_19
      have o7 := o7.sub s_19
      have o8 := o8.sub s_19
      have hI := hI.sub s_19
      have szB := Nat.le_trans szB s_19.size
      have hb_12 := hb_12.sub s_19
      have hb_18 := hb_18.sub s_19
      have hB := hB.sub s_19
      refine RL.store sh25 rfl rfl rfl hb_19 (by exact Nat.le_of_ble_eq_true rfl) (by rfl) rfl (fun w43 z43 hb_19 a43 => ?_)
      have S := S.upd a43 ge_19
      have hb_5 := hb_5.upd a43 n_5__19
      have o7 := o7.updD a43 d_o7_b_19
      have o8 := o8.updD a43 d_o8_b_19
      have hI := hI.updD a43 d_hI_b_19
      have szB := Nat.le_trans szB a43.size
      have hb_12 := hb_12.upd a43 n_12__19
      have hb_18 := hb_18.upd a43 n_18__19
      have hB := hB.updD a43 d_hB_b_19
      have hb_19 : Has w43 b_19 ([.slice nb B.nodes.length ncb, .slice fb B.free.length fcb]) _ := hb_19.now (by kernel_rfl)
      refine RL.ev (.assign rfl) rfl rfl ?_
      refine RL.ev (.assign rfl) rfl rfl ?_
      refine RL.nil (RC.back ?_)
      refine RC.cutx (α := Unit) (fun _ => [(0, .int .i64 (n : Int)), (5, .pointer (some ⟨b_5, 0, none⟩)), (6, .int .i64 0), (7, .slice a7 (refs.map fun x => [u6 x]).length c7), (8, .slice a8 (nodes.map Node.cells).length c8), (9, .int .i64 (live : Int)), (10, .int .u64 last), (36, .slice pa l.length pc), (37, .int .i64 (l.length : Int)), (38, .int .i64 (i : Int)), (18, .pointer (some ⟨b_18, 0, none⟩)), (19, .pointer (some ⟨b_19, 0, none⟩)), (20, .int .u64 rB), (21, .int .i64 eB)]) (fun _ w44 => Has w44 b_5 [.slice na A.nodes.length nc, .slice fa A.free.length fc] 25 ∧ Own E w44 32 1 (.slice a7 (refs.map fun x => [u6 x]).length c7) (refs.map fun x => [u6 x]) ∧ Own E w44 35 16 (.slice a8 (nodes.map Node.cells).length c8) (nodes.map Node.cells) ∧ Ft M (fun u => ArR u na fa A) w44 ∧ (∀ k, M k → k ≠ b_5) ∧ (∀ k, ob (.slice a7 (refs.map fun x => [u6 x]).length c7) = some k → M k → False) ∧ (∀ k, ob (.slice a8 (nodes.map Node.cells).length c8) = some k → M k → False) ∧ (∀ k, ob (.slice a7 (refs.map fun x => [u6 x]).length c7) = some k → ob (.slice a8 (nodes.map Node.cells).length c8) = some k → False) ∧ E ≤ w44.heap.size ∧ Sub w w44 ∧ Has w44 b_18 (nK z last).cells 35 ∧ Has w44 b_19 [.slice nb B.nodes.length ncb, .slice fb B.free.length fcb] 25 ∧ Ft MB (fun u => ArR u nb fb B) w44) ?_ (fun _ w44 hJ => ?_)
      ·
        refine RC.seq ?_
        refine RC.region rfl ?_
        refine RL.ev (.move rfl) rfl rfl ?_
        refine RL.ev (.bin rfl rfl rfl) rfl rfl ?_
        refine RL.ev (.move rfl) rfl rfl ?_
        refine RL.ev (.move rfl) rfl rfl ?_
        refine RL.ev (.bin rfl rfl rfl) rfl rfl ?_
        refine RL.ev (.as (v' := .bool false) (.neB bo4 rfl rfl) (congrArg Value.bool (bne_iff hcs.1))) rfl rfl ?_
        refine RL.ev (.move rfl) rfl rfl ?_
        refine RL.ev (.move rfl) rfl rfl ?_
        refine RL.ev (.bin rfl rfl rfl) rfl rfl ?_
        refine RL.ev (.move rfl) rfl rfl ?_
        refine RL.split 124 rfl (fun h45 => ?_) (fun h45 => ?_)
        ·
          refine RL.ev (.move rfl) rfl rfl ?_
          refine RL.ev (.as (v' := .bool false) (.bin rfl rfl rfl) (congrArg Value.bool (decide_eq_false (fun h => h (hcs.2 (by omega)))))) rfl rfl ?_
          refine RL.ev (.pick_t rfl rfl) rfl rfl ?_
          refine RL.ev (.pick_f rfl rfl) rfl rfl ?_
          refine RL.nil (RC.back ?_)
          refine RC.cond_f rfl ?_
          exact RC.skip (fun a ka => ⟨(), ⟨hb_5, o7, o8, hI, dI5, d7I, d8I, d78, szB, S, hb_18, hb_19, hB⟩, ka.keep (keep_of (by repeat (first | exact trivial | refine And.intro rfl ?_)))⟩)
        ·
          refine RL.off rfl rfl ?_
          refine RL.off rfl rfl ?_
          refine RL.ev (.pick_f rfl rfl) rfl rfl ?_
          refine RL.ev (.pick_f rfl rfl) rfl rfl ?_
          refine RL.nil (RC.back ?_)
          refine RC.cond_f rfl ?_
          exact RC.skip (fun a ka => ⟨(), ⟨hb_5, o7, o8, hI, dI5, d7I, d8I, d78, szB, S, hb_18, hb_19, hB⟩, ka.keep (keep_of (by repeat (first | exact trivial | refine And.intro rfl ?_)))⟩)
      obtain ⟨hb_5, o7, o8, hI, dI5, d7I, d8I, d78, szB, S, hb_18, hb_19, hB⟩ := hJ
      have d7_5 : ∀ k, ob (.slice a7 (refs.map fun x => [u6 x]).length c7) = some k → k ≠ b_5 := fun k hk e => absurd (o7.ge k hk).1 (by omega)
      have d8_5 : ∀ k, ob (.slice a8 (nodes.map Node.cells).length c8) = some k → k ≠ b_5 := fun k hk e => absurd (o8.ge k hk).1 (by omega)
      refine RC.cutx (α := Ar × (Option Addr × Option Addr × Nat × Nat) × List Int × List Node × Nat × Int × (Option Addr × Nat × Nat) × (Option Addr × Nat × Nat) × (Nat → Prop)) (fun y_ => [(0, .int .i64 (n : Int)), (5, .pointer (some ⟨b_5, 0, none⟩)), (6, .int .i64 0), (7, .slice y_.2.2.2.2.2.2.1.1 y_.2.2.2.2.2.2.1.2.1 y_.2.2.2.2.2.2.1.2.2), (8, .slice y_.2.2.2.2.2.2.2.1.1 y_.2.2.2.2.2.2.2.1.2.1 y_.2.2.2.2.2.2.2.1.2.2), (9, .int .i64 (y_.2.2.2.2.1 : Int)), (10, .int .u64 y_.2.2.2.2.2.1), (36, .slice pa l.length pc), (37, .int .i64 (l.length : Int)), (38, .int .i64 (i : Int))]) (fun y_ w46 => (Kp n (i + 1) y_.1 y_.2.2.1 y_.2.2.2.1 y_.2.2.2.2.1 y_.2.2.2.2.2.1 ∧ y_.1.nodes.length ≤ y_.2.1.2.2.1 ∧ y_.1.free.length ≤ y_.2.1.2.2.2) ∧ Has w46 b_5 [.slice y_.2.1.1 y_.1.nodes.length y_.2.1.2.2.1, .slice y_.2.1.2.1 y_.1.free.length y_.2.1.2.2.2] 25 ∧ Own E w46 32 1 (.slice y_.2.2.2.2.2.2.1.1 y_.2.2.2.2.2.2.1.2.1 y_.2.2.2.2.2.2.1.2.2) (y_.2.2.1.map fun x => [u6 x]) ∧ Own E w46 35 16 (.slice y_.2.2.2.2.2.2.2.1.1 y_.2.2.2.2.2.2.2.1.2.1 y_.2.2.2.2.2.2.2.1.2.2) (y_.2.2.2.1.map Node.cells) ∧ Ft y_.2.2.2.2.2.2.2.2 (fun u => ArR u y_.2.1.1 y_.2.1.2.1 y_.1) w46 ∧ (∀ k, y_.2.2.2.2.2.2.2.2 k → k ≠ b_5) ∧ (∀ k, ob (.slice y_.2.2.2.2.2.2.1.1 y_.2.2.2.2.2.2.1.2.1 y_.2.2.2.2.2.2.1.2.2) = some k → y_.2.2.2.2.2.2.2.2 k → False) ∧ (∀ k, ob (.slice y_.2.2.2.2.2.2.2.1.1 y_.2.2.2.2.2.2.2.1.2.1 y_.2.2.2.2.2.2.2.1.2.2) = some k → y_.2.2.2.2.2.2.2.2 k → False) ∧ (∀ k, ob (.slice y_.2.2.2.2.2.2.1.1 y_.2.2.2.2.2.2.1.2.1 y_.2.2.2.2.2.2.1.2.2) = some k → ob (.slice y_.2.2.2.2.2.2.2.1.1 y_.2.2.2.2.2.2.2.1.2.1 y_.2.2.2.2.2.2.2.1.2.2) = some k → False) ∧ E ≤ w46.heap.size ∧ Sub w w46) ?_ (fun y_ w46 hJ => ?_)
      ·
        refine RC.seq ?_
        refine RC.region rfl ?_
        refine RL.ev (.move rfl) rfl rfl ?_
        refine RL.ev (.bin rfl rfl rfl) rfl rfl ?_
        refine RL.nil (RC.back ?_)
        refine RC.cond_dec rfl (fun h47 => ?_) (fun h47 => ?_)
        ·
          obtain ⟨_, hpos, hBe, hre⟩ := he0 h47
          have hKm := hK.make hmay rfl hxo hpos
          rw [← hBe, ← hre] at hKm
          refine RC.seq ?_
          refine RC.region rfl ?_
          refine RL.ev (.loadR ([.slice nb B.nodes.length ncb, .slice fb B.free.length fcb]) sh25 rfl hb_19.row rfl) rfl rfl ?_
          refine RL.ev (.move rfl) rfl rfl ?_
          refine RL.store sh25 rfl rfl rfl hb_5 (by exact Nat.le_of_ble_eq_true rfl) (by rfl) rfl (fun w48 z48 hb_5 a48 => ?_)
          have S := S.upd a48 ge_5
          have o7 := o7.updD a48 d7_5
          have o8 := o8.updD a48 d8_5
          have szB := Nat.le_trans szB a48.size
          have hb_18 := hb_18.upd a48 n_5__18.symm
          have hb_19 := hb_19.upd a48 n_5__19.symm
          have hB := hB.updD a48 d_hB_b_5
          have hb_5 : Has w48 b_5 ([.slice nb B.nodes.length ncb, .slice fb B.free.length fcb]) _ := hb_5.now (by kernel_rfl)
          refine RL.ev (.assign rfl) rfl rfl ?_
          refine RL.nil (RC.back ?_)
          refine RC.seq ?_
          refine RC.drawD (fun k => ob (.slice a7 (refs.map fun x => [u6 x]).length c7) = some k ∨ ob (.slice a8 (nodes.map Node.cells).length c8) = some k) [3, 7] w48.heap.size 10 rfl rfl mxo (fun w49 s50 => ?_)
          have hNN : ∀ k, ((ob (.slice a7 (refs.map fun x => [u6 x]).length c7) = some k ∨ ob (.slice a8 (nodes.map Node.cells).length c8) = some k) ∨ w48.heap.size ≤ k) → w.heap.size ≤ k := fun k e => e.elim (fun e => e.elim (fun e => Nat.le_trans (by omega) (o7.ge k e).1) (fun e => Nat.le_trans (by omega) (o8.ge k e).1)) (fun e => Nat.le_trans S.size e)
          have ent_S := S.size
          have hN0 : ∀ k, w48.heap.size ≤ k → w.heap.size ≤ k := fun k e => Nat.le_trans S.size e
          have ltD_b_5 := hb_5.lt
          have ltD_o7 := fun k hk => (o7.ge k hk).2
          have ltD_o8 := fun k hk => (o8.ge k hk).2
          have ltD_b_18 := hb_18.lt
          have ltD_b_19 := hb_19.lt
          have ltD_hB := fun k hk => (hB.ge k hk).2
          have szD := Nat.le_refl w48.heap.size
          have S := S.trans s50
          have hb_5 := hb_5.sub s50
          have o7 := o7.sub s50
          have o8 := o8.sub s50
          have szB := Nat.le_trans szB s50.size
          have hb_18 := hb_18.sub s50
          have hb_19 := hb_19.sub s50
          have hB := hB.sub s50
          have szD := Nat.le_trans szD s50.size
          refine RD.take 0 rfl (by kernel_rfl) (by kernel_rfl) (by kernel_rfl) (fun w' s' => .move rfl) rfl rfl ?_
          refine RD.take 1 rfl (by kernel_rfl) (by kernel_rfl) (by kernel_rfl) (fun w' s' => .move rfl) rfl rfl ?_
          refine RD.take 4 rfl (by kernel_rfl) (by kernel_rfl) (by kernel_rfl) (fun w' s' => .move rfl) rfl rfl ?_
          refine RD.take 5 rfl (by kernel_rfl) (by kernel_rfl) (by kernel_rfl) (fun w' s' => .loadR ((nK z last).cells) sh35 rfl (hb_18.step s' (fun e => e.elim (fun e => e.elim (fun e => d_o7_b_18 _ e rfl) (fun e => d_o8_b_18 _ e rfl)) (fun e => Nat.not_le.2 ltD_b_18 e))).row rfl) rfl rfl ?_
          refine RD.all [2, 6] (by kernel_rfl) rfl (RDs.cons rfl ?_ (RDs.cons rfl ?_ (RDs.nil)))
          ·
            refine RL.buildSlice1 sl41 _ ze32 rfl rfl rfl rfl rfl rfl rfl (fun b_135 w_135 e_135 z_135 hb_135 s_135 => ?_)
            have fr_b_135 : w48.heap.size ≤ b_135 := by rw [e_135]; exact szD
            have ge_135 := S.le e_135
            have n_5__135 := hb_5.ne e_135
            have n_18__135 := hb_18.ne e_135
            have n_19__135 := hb_19.ne e_135
            have d_o7_b_135 := o7.neNew e_135
            have d_o8_b_135 := o8.neNew e_135
            have d_hB_b_135 := hB.neNew e_135
            have S := S.trans s_135
            have hb_5 := hb_5.sub s_135
            have o7 := o7.sub s_135
            have o8 := o8.sub s_135
            have szB := Nat.le_trans szB s_135.size
            have hb_18 := hb_18.sub s_135
            have hb_19 := hb_19.sub s_135
            have hB := hB.sub s_135
            have szD := Nat.le_trans szD s_135.size
            refine RD.back s_135.agr ?_
            refine RD.all [3, 6] (by kernel_rfl) rfl (RDs.cons rfl ?_ (RDs.cons rfl ?_ (RDs.nil)))
            ·
              have sz_136 := S.size
              have ltb_5_136 := hb_5.lt
              have ltb_18_136 := hb_18.lt
              have ltb_19_136 := hb_19.lt
              have ltb_135_136 := hb_135.lt
              refine RL.append2 (base := E) (rows := refs.map fun x => [u6 x]) (news := [_]) sl41 ze32 rfl rfl rfl rfl (.inl o7) (Has.slOne hb_135) rfl (by intro r hr; rw [List.mem_singleton] at hr; subst hr; rfl) rfl (by (try simp only [List.length_map, List.length_nil, List.length_append, List.length_cons]); omega) (by (try simp only [List.length_map, List.length_nil, List.length_append, List.length_cons]); omega) (by omega) rfl rfl (fun v_136 w_136 hc_136 ho_136 ag_136 ob_136 => ?_)
              have o136 := ho_136 (.inl (by simp))
              rw [show _ ++ [_] = ((refs ++ [rB]).map fun x => [u6 x]) from by rw [List.map_append]; rfl] at o136
              have d_o136_b_5 := obNe ob_136 d7_5 hb_5.lt
              have dd_o136_o8 := obDD ob_136 d78 (fun k hk => (o8.ge k hk).2)
              have d_o136_b_18 := obNe ob_136 d_o7_b_18 hb_18.lt
              have d_o136_b_19 := obNe ob_136 d_o7_b_19 hb_19.lt
              have dd_o136_hB := obDF ob_136 dd_o7_hB (fun k hk => (hB.ge k hk).2)
              have S := S.agrN ag_136 (fun k e => Nat.le_trans (by omega) e.2)
              have hb_5 := hb_5.step ag_136 (fun e => d7_5 _ e.1 rfl)
              have o8 := o8.step ag_136 (fun k hk e => d78 k e.1 hk)
              have szB := Nat.le_trans szB ag_136.size
              have hb_18 := hb_18.step ag_136 (fun e => d_o7_b_18 _ e.1 rfl)
              have hb_19 := hb_19.step ag_136 (fun e => d_o7_b_19 _ e.1 rfl)
              have hB := hB.step ag_136 (fun k hk e => dd_o7_hB k e.1 hk)
              have szD := Nat.le_trans szD ag_136.size
              obtain ⟨a_136, c_136, rfl, k_136⟩ := o136.form
              refine RD.backW rfl (ag_136.mono fun k _ e => .inl (.inl e.1)) ?_
              refine RD.all [6] (by kernel_rfl) rfl (RDs.cons rfl ?_ (RDs.nil))
              refine RL.buildSlice1 sl22 _ ze35 rfl rfl rfl rfl rfl rfl rfl (fun b_139 w_139 e_139 z_139 hb_139 s_139 => ?_)
              have fr_b_139 : w48.heap.size ≤ b_139 := by rw [e_139]; exact szD
              have ge_139 := S.le e_139
              have n_5__139 := hb_5.ne e_139
              have n_18__139 := hb_18.ne e_139
              have n_19__139 := hb_19.ne e_139
              have d_o8_b_139 := o8.neNew e_139
              have d_hB_b_139 := hB.neNew e_139
              have d_o136_b_139 := o136.neNew e_139
              have S := S.trans s_139
              have hb_5 := hb_5.sub s_139
              have o8 := o8.sub s_139
              have szB := Nat.le_trans szB s_139.size
              have hb_18 := hb_18.sub s_139
              have hb_19 := hb_19.sub s_139
              have hB := hB.sub s_139
              have szD := Nat.le_trans szD s_139.size
              have o136 := o136.sub s_139
              refine RD.back s_139.agr ?_
              refine RD.all [7] (by kernel_rfl) rfl (RDs.cons rfl ?_ (RDs.nil))
              have sz_140 := S.size
              have ltb_5_140 := hb_5.lt
              have ltb_18_140 := hb_18.lt
              have ltb_19_140 := hb_19.lt
              have ltb_139_140 := hb_139.lt
              refine RL.append2 (base := E) (rows := nodes.map Node.cells) (news := [_]) sl22 ze35 rfl rfl rfl rfl (.inl o8) (Has.slOne hb_139) rfl (by intro r hr; rw [List.mem_singleton] at hr; subst hr; rfl) rfl (by (try simp only [List.length_map, List.length_nil, List.length_append, List.length_cons]); omega) (by (try simp only [List.length_map, List.length_nil, List.length_append, List.length_cons]); omega) (by omega) rfl rfl (fun v_140 w_140 hc_140 ho_140 ag_140 ob_140 => ?_)
              have o140 := ho_140 (.inl (by simp))
              rw [show _ ++ [_] = ((nodes ++ [nK z last]).map Node.cells) from by rw [List.map_append]; rfl] at o140
              have d_o140_b_5 := obNe ob_140 d8_5 hb_5.lt
              have d_o140_b_18 := obNe ob_140 d_o8_b_18 hb_18.lt
              have d_o140_b_19 := obNe ob_140 d_o8_b_19 hb_19.lt
              have dd_o140_hB := obDF ob_140 dd_o8_hB (fun k hk => (hB.ge k hk).2)
              have dd_o140_o136 := obDD ob_140 (fun k h1 h2 => dd_o136_o8 k h2 h1) (fun k hk => (o136.ge k hk).2)
              have S := S.agrN ag_140 (fun k e => Nat.le_trans (by omega) e.2)
              have hb_5 := hb_5.step ag_140 (fun e => d8_5 _ e.1 rfl)
              have szB := Nat.le_trans szB ag_140.size
              have hb_18 := hb_18.step ag_140 (fun e => d_o8_b_18 _ e.1 rfl)
              have hb_19 := hb_19.step ag_140 (fun e => d_o8_b_19 _ e.1 rfl)
              have hB := hB.step ag_140 (fun k hk e => dd_o8_hB k e.1 hk)
              have szD := Nat.le_trans szD ag_140.size
              have o136 := o136.step ag_140 (fun k hk e => (fun k h1 h2 => dd_o136_o8 k h2 h1) k e.1 hk)
              obtain ⟨a_140, c_140, rfl, k_140⟩ := o140.form
              refine RD.backW rfl (ag_140.mono fun k _ e => .inl (.inr (e.1))) ?_
              refine RD.take 8 rfl (by kernel_rfl) (by kernel_rfl) (by kernel_rfl) (fun w' s' => .assign rfl) rfl rfl ?_
              refine RD.take 9 rfl (by kernel_rfl) (by kernel_rfl) (by kernel_rfl) (fun w' s' => .assign rfl) rfl rfl ?_
              refine RD.done (by kernel_rfl) (RC.back ?_)
              refine RC.region rfl ?_
              refine RL.ev (.move rfl) rfl rfl ?_
              refine RL.ev (.as (.bin rfl rfl rfl) (wi64 (y := ((live + 1 : Nat) : Int)) (by omega) (by omega))) rfl rfl ?_
              refine RL.ev (.assign rfl) rfl rfl ?_
              exact RL.nil (fun a ka => ⟨(B, (nb, fb, ncb, fcb), refs ++ [rB], nodes ++ [nK z last], live + 1, rB, (a_136, _, c_136), (a_140, _, c_140), MB), ⟨⟨hKm, hnB, hfB⟩, hb_5, o136, o140, hB, d_hB_b_5, dd_o136_hB, dd_o140_hB, (by first | exact dd_o136_o140 | exact fun k h1 h2 => dd_o140_o136 k h2 h1), szB, S⟩, ka.keep (keep_of (by repeat (first | exact trivial | refine And.intro rfl ?_)))⟩)
            ·
              refine RL.buildSlice1 sl22 _ ze35 rfl rfl rfl rfl rfl rfl rfl (fun b_139 w_139 e_139 z_139 hb_139 s_139 => ?_)
              have fr_b_139 : w48.heap.size ≤ b_139 := by rw [e_139]; exact szD
              have ge_139 := S.le e_139
              have n_5__139 := hb_5.ne e_139
              have n_18__139 := hb_18.ne e_139
              have n_19__139 := hb_19.ne e_139
              have n_135__139 := hb_135.ne e_139
              have d_o7_b_139 := o7.neNew e_139
              have d_o8_b_139 := o8.neNew e_139
              have d_hB_b_139 := hB.neNew e_139
              have S := S.trans s_139
              have hb_5 := hb_5.sub s_139
              have o7 := o7.sub s_139
              have o8 := o8.sub s_139
              have szB := Nat.le_trans szB s_139.size
              have hb_18 := hb_18.sub s_139
              have hb_19 := hb_19.sub s_139
              have hB := hB.sub s_139
              have szD := Nat.le_trans szD s_139.size
              have hb_135 := hb_135.sub s_139
              refine RD.back s_139.agr ?_
              refine RD.all [3] (by kernel_rfl) rfl (RDs.cons rfl ?_ (RDs.nil))
              have sz_136 := S.size
              have ltb_5_136 := hb_5.lt
              have ltb_18_136 := hb_18.lt
              have ltb_19_136 := hb_19.lt
              have ltb_135_136 := hb_135.lt
              have ltb_139_136 := hb_139.lt
              refine RL.append2 (base := E) (rows := refs.map fun x => [u6 x]) (news := [_]) sl41 ze32 rfl rfl rfl rfl (.inl o7) (Has.slOne hb_135) rfl (by intro r hr; rw [List.mem_singleton] at hr; subst hr; rfl) rfl (by (try simp only [List.length_map, List.length_nil, List.length_append, List.length_cons]); omega) (by (try simp only [List.length_map, List.length_nil, List.length_append, List.length_cons]); omega) (by omega) rfl rfl (fun v_136 w_136 hc_136 ho_136 ag_136 ob_136 => ?_)
              have o136 := ho_136 (.inl (by simp))
              rw [show _ ++ [_] = ((refs ++ [rB]).map fun x => [u6 x]) from by rw [List.map_append]; rfl] at o136
              have d_o136_b_5 := obNe ob_136 d7_5 hb_5.lt
              have dd_o136_o8 := obDD ob_136 d78 (fun k hk => (o8.ge k hk).2)
              have d_o136_b_18 := obNe ob_136 d_o7_b_18 hb_18.lt
              have d_o136_b_19 := obNe ob_136 d_o7_b_19 hb_19.lt
              have dd_o136_hB := obDF ob_136 dd_o7_hB (fun k hk => (hB.ge k hk).2)
              have d_o136_b_139 := obNe ob_136 d_o7_b_139 hb_139.lt
              have S := S.agrN ag_136 (fun k e => Nat.le_trans (by omega) e.2)
              have hb_5 := hb_5.step ag_136 (fun e => d7_5 _ e.1 rfl)
              have o8 := o8.step ag_136 (fun k hk e => d78 k e.1 hk)
              have szB := Nat.le_trans szB ag_136.size
              have hb_18 := hb_18.step ag_136 (fun e => d_o7_b_18 _ e.1 rfl)
              have hb_19 := hb_19.step ag_136 (fun e => d_o7_b_19 _ e.1 rfl)
              have hB := hB.step ag_136 (fun k hk e => dd_o7_hB k e.1 hk)
              have szD := Nat.le_trans szD ag_136.size
              have hb_139 := hb_139.step ag_136 (fun e => d_o7_b_139 _ e.1 rfl)
              obtain ⟨a_136, c_136, rfl, k_136⟩ := o136.form
              refine RD.backW rfl (ag_136.mono fun k _ e => .inl (.inl e.1)) ?_
              refine RD.all [7] (by kernel_rfl) rfl (RDs.cons rfl ?_ (RDs.nil))
              have sz_140 := S.size
              have ltb_5_140 := hb_5.lt
              have ltb_18_140 := hb_18.lt
              have ltb_19_140 := hb_19.lt
              have ltb_139_140 := hb_139.lt
              refine RL.append2 (base := E) (rows := nodes.map Node.cells) (news := [_]) sl22 ze35 rfl rfl rfl rfl (.inl o8) (Has.slOne hb_139) rfl (by intro r hr; rw [List.mem_singleton] at hr; subst hr; rfl) rfl (by (try simp only [List.length_map, List.length_nil, List.length_append, List.length_cons]); omega) (by (try simp only [List.length_map, List.length_nil, List.length_append, List.length_cons]); omega) (by omega) rfl rfl (fun v_140 w_140 hc_140 ho_140 ag_140 ob_140 => ?_)
              have o140 := ho_140 (.inl (by simp))
              rw [show _ ++ [_] = ((nodes ++ [nK z last]).map Node.cells) from by rw [List.map_append]; rfl] at o140
              have d_o140_b_5 := obNe ob_140 d8_5 hb_5.lt
              have d_o140_b_18 := obNe ob_140 d_o8_b_18 hb_18.lt
              have d_o140_b_19 := obNe ob_140 d_o8_b_19 hb_19.lt
              have dd_o140_hB := obDF ob_140 dd_o8_hB (fun k hk => (hB.ge k hk).2)
              have dd_o140_o136 := obDD ob_140 (fun k h1 h2 => dd_o136_o8 k h2 h1) (fun k hk => (o136.ge k hk).2)
              have S := S.agrN ag_140 (fun k e => Nat.le_trans (by omega) e.2)
              have hb_5 := hb_5.step ag_140 (fun e => d8_5 _ e.1 rfl)
              have szB := Nat.le_trans szB ag_140.size
              have hb_18 := hb_18.step ag_140 (fun e => d_o8_b_18 _ e.1 rfl)
              have hb_19 := hb_19.step ag_140 (fun e => d_o8_b_19 _ e.1 rfl)
              have hB := hB.step ag_140 (fun k hk e => dd_o8_hB k e.1 hk)
              have szD := Nat.le_trans szD ag_140.size
              have o136 := o136.step ag_140 (fun k hk e => (fun k h1 h2 => dd_o136_o8 k h2 h1) k e.1 hk)
              obtain ⟨a_140, c_140, rfl, k_140⟩ := o140.form
              refine RD.backW rfl (ag_140.mono fun k _ e => .inl (.inr (e.1))) ?_
              refine RD.take 8 rfl (by kernel_rfl) (by kernel_rfl) (by kernel_rfl) (fun w' s' => .assign rfl) rfl rfl ?_
              refine RD.take 9 rfl (by kernel_rfl) (by kernel_rfl) (by kernel_rfl) (fun w' s' => .assign rfl) rfl rfl ?_
              refine RD.done (by kernel_rfl) (RC.back ?_)
              refine RC.region rfl ?_
              refine RL.ev (.move rfl) rfl rfl ?_
              refine RL.ev (.as (.bin rfl rfl rfl) (wi64 (y := ((live + 1 : Nat) : Int)) (by omega) (by omega))) rfl rfl ?_
              refine RL.ev (.assign rfl) rfl rfl ?_
              exact RL.nil (fun a ka => ⟨(B, (nb, fb, ncb, fcb), refs ++ [rB], nodes ++ [nK z last], live + 1, rB, (a_136, _, c_136), (a_140, _, c_140), MB), ⟨⟨hKm, hnB, hfB⟩, hb_5, o136, o140, hB, d_hB_b_5, dd_o136_hB, dd_o140_hB, (by first | exact dd_o136_o140 | exact fun k h1 h2 => dd_o140_o136 k h2 h1), szB, S⟩, ka.keep (keep_of (by repeat (first | exact trivial | refine And.intro rfl ?_)))⟩)
          ·
            refine RL.buildSlice1 sl22 _ ze35 rfl rfl rfl rfl rfl rfl rfl (fun b_139 w_139 e_139 z_139 hb_139 s_139 => ?_)
            have fr_b_139 : w48.heap.size ≤ b_139 := by rw [e_139]; exact szD
            have ge_139 := S.le e_139
            have n_5__139 := hb_5.ne e_139
            have n_18__139 := hb_18.ne e_139
            have n_19__139 := hb_19.ne e_139
            have d_o7_b_139 := o7.neNew e_139
            have d_o8_b_139 := o8.neNew e_139
            have d_hB_b_139 := hB.neNew e_139
            have S := S.trans s_139
            have hb_5 := hb_5.sub s_139
            have o7 := o7.sub s_139
            have o8 := o8.sub s_139
            have szB := Nat.le_trans szB s_139.size
            have hb_18 := hb_18.sub s_139
            have hb_19 := hb_19.sub s_139
            have hB := hB.sub s_139
            have szD := Nat.le_trans szD s_139.size
            refine RD.back s_139.agr ?_
            refine RD.all [2] (by kernel_rfl) rfl (RDs.cons rfl ?_ (RDs.nil))
            refine RL.buildSlice1 sl41 _ ze32 rfl rfl rfl rfl rfl rfl rfl (fun b_135 w_135 e_135 z_135 hb_135 s_135 => ?_)
            have fr_b_135 : w48.heap.size ≤ b_135 := by rw [e_135]; exact szD
            have ge_135 := S.le e_135
            have n_5__135 := hb_5.ne e_135
            have n_18__135 := hb_18.ne e_135
            have n_19__135 := hb_19.ne e_135
            have n_139__135 := hb_139.ne e_135
            have d_o7_b_135 := o7.neNew e_135
            have d_o8_b_135 := o8.neNew e_135
            have d_hB_b_135 := hB.neNew e_135
            have S := S.trans s_135
            have hb_5 := hb_5.sub s_135
            have o7 := o7.sub s_135
            have o8 := o8.sub s_135
            have szB := Nat.le_trans szB s_135.size
            have hb_18 := hb_18.sub s_135
            have hb_19 := hb_19.sub s_135
            have hB := hB.sub s_135
            have szD := Nat.le_trans szD s_135.size
            have hb_139 := hb_139.sub s_135
            refine RD.back s_135.agr ?_
            refine RD.all [3] (by kernel_rfl) rfl (RDs.cons rfl ?_ (RDs.nil))
            have sz_136 := S.size
            have ltb_5_136 := hb_5.lt
            have ltb_18_136 := hb_18.lt
            have ltb_19_136 := hb_19.lt
            have ltb_139_136 := hb_139.lt
            have ltb_135_136 := hb_135.lt
            refine RL.append2 (base := E) (rows := refs.map fun x => [u6 x]) (news := [_]) sl41 ze32 rfl rfl rfl rfl (.inl o7) (Has.slOne hb_135) rfl (by intro r hr; rw [List.mem_singleton] at hr; subst hr; rfl) rfl (by (try simp only [List.length_map, List.length_nil, List.length_append, List.length_cons]); omega) (by (try simp only [List.length_map, List.length_nil, List.length_append, List.length_cons]); omega) (by omega) rfl rfl (fun v_136 w_136 hc_136 ho_136 ag_136 ob_136 => ?_)
            have o136 := ho_136 (.inl (by simp))
            rw [show _ ++ [_] = ((refs ++ [rB]).map fun x => [u6 x]) from by rw [List.map_append]; rfl] at o136
            have d_o136_b_5 := obNe ob_136 d7_5 hb_5.lt
            have dd_o136_o8 := obDD ob_136 d78 (fun k hk => (o8.ge k hk).2)
            have d_o136_b_18 := obNe ob_136 d_o7_b_18 hb_18.lt
            have d_o136_b_19 := obNe ob_136 d_o7_b_19 hb_19.lt
            have dd_o136_hB := obDF ob_136 dd_o7_hB (fun k hk => (hB.ge k hk).2)
            have d_o136_b_139 := obNe ob_136 d_o7_b_139 hb_139.lt
            have S := S.agrN ag_136 (fun k e => Nat.le_trans (by omega) e.2)
            have hb_5 := hb_5.step ag_136 (fun e => d7_5 _ e.1 rfl)
            have o8 := o8.step ag_136 (fun k hk e => d78 k e.1 hk)
            have szB := Nat.le_trans szB ag_136.size
            have hb_18 := hb_18.step ag_136 (fun e => d_o7_b_18 _ e.1 rfl)
            have hb_19 := hb_19.step ag_136 (fun e => d_o7_b_19 _ e.1 rfl)
            have hB := hB.step ag_136 (fun k hk e => dd_o7_hB k e.1 hk)
            have szD := Nat.le_trans szD ag_136.size
            have hb_139 := hb_139.step ag_136 (fun e => d_o7_b_139 _ e.1 rfl)
            obtain ⟨a_136, c_136, rfl, k_136⟩ := o136.form
            refine RD.backW rfl (ag_136.mono fun k _ e => .inl (.inl e.1)) ?_
            refine RD.all [7] (by kernel_rfl) rfl (RDs.cons rfl ?_ (RDs.nil))
            have sz_140 := S.size
            have ltb_5_140 := hb_5.lt
            have ltb_18_140 := hb_18.lt
            have ltb_19_140 := hb_19.lt
            have ltb_139_140 := hb_139.lt
            refine RL.append2 (base := E) (rows := nodes.map Node.cells) (news := [_]) sl22 ze35 rfl rfl rfl rfl (.inl o8) (Has.slOne hb_139) rfl (by intro r hr; rw [List.mem_singleton] at hr; subst hr; rfl) rfl (by (try simp only [List.length_map, List.length_nil, List.length_append, List.length_cons]); omega) (by (try simp only [List.length_map, List.length_nil, List.length_append, List.length_cons]); omega) (by omega) rfl rfl (fun v_140 w_140 hc_140 ho_140 ag_140 ob_140 => ?_)
            have o140 := ho_140 (.inl (by simp))
            rw [show _ ++ [_] = ((nodes ++ [nK z last]).map Node.cells) from by rw [List.map_append]; rfl] at o140
            have d_o140_b_5 := obNe ob_140 d8_5 hb_5.lt
            have d_o140_b_18 := obNe ob_140 d_o8_b_18 hb_18.lt
            have d_o140_b_19 := obNe ob_140 d_o8_b_19 hb_19.lt
            have dd_o140_hB := obDF ob_140 dd_o8_hB (fun k hk => (hB.ge k hk).2)
            have dd_o140_o136 := obDD ob_140 (fun k h1 h2 => dd_o136_o8 k h2 h1) (fun k hk => (o136.ge k hk).2)
            have S := S.agrN ag_140 (fun k e => Nat.le_trans (by omega) e.2)
            have hb_5 := hb_5.step ag_140 (fun e => d8_5 _ e.1 rfl)
            have szB := Nat.le_trans szB ag_140.size
            have hb_18 := hb_18.step ag_140 (fun e => d_o8_b_18 _ e.1 rfl)
            have hb_19 := hb_19.step ag_140 (fun e => d_o8_b_19 _ e.1 rfl)
            have hB := hB.step ag_140 (fun k hk e => dd_o8_hB k e.1 hk)
            have szD := Nat.le_trans szD ag_140.size
            have o136 := o136.step ag_140 (fun k hk e => (fun k h1 h2 => dd_o136_o8 k h2 h1) k e.1 hk)
            obtain ⟨a_140, c_140, rfl, k_140⟩ := o140.form
            refine RD.backW rfl (ag_140.mono fun k _ e => .inl (.inr (e.1))) ?_
            refine RD.take 8 rfl (by kernel_rfl) (by kernel_rfl) (by kernel_rfl) (fun w' s' => .assign rfl) rfl rfl ?_
            refine RD.take 9 rfl (by kernel_rfl) (by kernel_rfl) (by kernel_rfl) (fun w' s' => .assign rfl) rfl rfl ?_
            refine RD.done (by kernel_rfl) (RC.back ?_)
            refine RC.region rfl ?_
            refine RL.ev (.move rfl) rfl rfl ?_
            refine RL.ev (.as (.bin rfl rfl rfl) (wi64 (y := ((live + 1 : Nat) : Int)) (by omega) (by omega))) rfl rfl ?_
            refine RL.ev (.assign rfl) rfl rfl ?_
            exact RL.nil (fun a ka => ⟨(B, (nb, fb, ncb, fcb), refs ++ [rB], nodes ++ [nK z last], live + 1, rB, (a_136, _, c_136), (a_140, _, c_140), MB), ⟨⟨hKm, hnB, hfB⟩, hb_5, o136, o140, hB, d_hB_b_5, dd_o136_hB, dd_o140_hB, (by first | exact dd_o136_o140 | exact fun k h1 h2 => dd_o140_o136 k h2 h1), szB, S⟩, ka.keep (keep_of (by repeat (first | exact trivial | refine And.intro rfl ?_)))⟩)
        ·
          exact RC.skip (fun a ka => ⟨(A, (na, fa, nc, fc), refs, nodes, live, last, (a7, _, c7), (a8, _, c8), M), ⟨⟨hK.skip, hnc, hfc⟩, hb_5, o7, o8, hI, dI5, d7I, d8I, d78, szB, S⟩, ka.keep (keep_of (by repeat (first | exact trivial | refine And.intro rfl ?_)))⟩)
      clear hK hnc hfc hrl hrle hlive hAl
      obtain ⟨A, ⟨na, fa, nc, fc⟩, refs, nodes, live, last, ⟨a7, m7, c7⟩, ⟨a8, m8, c8⟩, M⟩ := y_
      obtain ⟨⟨hK, hnc, hfc⟩, hb_5, o7, o8, hI, dI5, d7I, d8I, d78, szB, S⟩ := hJ
      simp only [] at hK hnc hfc hb_5 o7 o8 hI dI5 d7I d8I d78
      obtain rfl := o7.sl.2
      obtain rfl := o8.sl.2
      have hrl := hK.rl
      have hrle := hK.rle
      have hlive := hK.live
      have hAl := hK.len
      have d7_5 : ∀ k, ob (.slice a7 (refs.map fun x => [u6 x]).length c7) = some k → k ≠ b_5 := fun k hk e => absurd (o7.ge k hk).1 (by omega)
      have d8_5 : ∀ k, ob (.slice a8 (nodes.map Node.cells).length c8) = some k → k ≠ b_5 := fun k hk e => absurd (o8.ge k hk).1 (by omega)
      refine RC.seq ?_
      refine RC.region rfl ?_
      refine RL.ev (.move rfl) rfl rfl ?_
      refine RL.ev (.as (v' := .int .i64 (refs.length : Int)) (.len sl41 rfl) (by rw [List.length_map])) rfl rfl ?_
      refine RL.ev (.move rfl) rfl rfl ?_
      have Sw := S
      obtain ⟨W8, hW8⟩ : ∃ W8, W8 = w46 := ⟨_, rfl⟩
      rw [← hW8] at Sw szB hb_5 o7 o8 hI
      refine RL.nil (RC.back ?_)
      refine RC.block ?_
      refine RC.loop (α := Nat) (fun k => [(0, .int .i64 (n : Int)), (5, .pointer (some ⟨b_5, 0, none⟩)), (6, .int .i64 0), (7, .slice a7 (refs.map fun x => [u6 x]).length c7), (8, .slice a8 (nodes.map Node.cells).length c8), (9, .int .i64 (live : Int)), (10, .int .u64 last), (36, .slice pa l.length pc), (37, .int .i64 (l.length : Int)), (38, .int .i64 (i : Int)), (143, .slice a7 (refs.map fun x => [u6 x]).length c7), (144, .int .i64 (refs.length : Int)), (145, .int .i64 (k : Int))]) (fun k w51 => k ≤ refs.length ∧ Sub W8 w51) (fun k => refs.length - k) 0 (keep_of (by repeat (first | exact trivial | refine And.intro rfl ?_))) (⟨Nat.zero_le _, hW8 ▸ Sub.refl _⟩) (fun k w51 hJ => ?_)
      obtain ⟨hk, S⟩ := hJ; have l7 := o7.sl.1; have l8 := o8.sl.1; have q5 := hb_5.sub S
      refine RC.seq ?_
      refine RC.region rfl ?_
      refine RL.ev (.bin rfl rfl rfl) rfl rfl ?_
      refine RL.nil (RC.back ?_)
      refine RC.seq ?_
      refine RC.cond_dec rfl (fun h52 => ?_) (fun h52 => ?_)
      ·
        obtain ⟨r, hr⟩ := getSome (l := refs) (i := k) (by omega)
        obtain ⟨m, hm⟩ := getSome (l := nodes) (i := k) (by omega)
        have hrU := hK.u r (List.mem_of_getElem? hr)
        obtain ⟨y, ey, hgv, hgs, hgn⟩ := getV_form2 A r
        have hkp := hK.get hr hm
        refine RC.skip (RC.back ?_)
        refine RC.seq ?_
        refine RC.block ?_
        refine RC.seq ?_
        refine RC.region rfl ?_
        refine RL.ev (.move rfl) rfl rfl ?_
        refine RL.ev (.indexS sl41 rfl rfl (idx_map (show k < refs.length by omega)) (l7.is (i := 0) (by simp only [List.length_map]; omega))) rfl rfl ?_
        refine RL.ev (.load1 sh32 rfl ((o7.sl.1.sub S).one (enc := u6) (i := k) hr)) rfl rfl ?_
        refine RL.ev (.assign rfl) rfl rfl ?_
        refine RL.ev (.assign rfl) rfl rfl ?_
        refine RL.nil (RC.back ?_)
        refine RC.seq ?_
        refine RC.region rfl ?_
        refine RL.ev (.loadR ([.slice na A.nodes.length nc, .slice fa A.free.length fc]) sh25 rfl q5.row rfl) rfl rfl ?_
        refine RL.ev (.move rfl) rfl rfl ?_
        refine RL.call rfl ok16 (c_aGet A na fa nc fc r hrU w51 (hI.now.sub S)) rfl rfl ?_
        rintro _ w53 ⟨rfl, s54⟩
        have S := S.trans s54
        have q5 := q5.sub s54
        refine RL.ev (.as (v' := .tuple #[y.val, .int .i64 ey]) (.move rfl) (by rw [hgv])) rfl rfl ?_
        refine RL.ev (.extract rfl rfl) rfl rfl ?_
        refine RL.ev (.extract rfl rfl) rfl rfl ?_
        refine RL.alloc ze35 rfl rfl (fun b_24 w_24 e_24 z_24 hb_24 s_24 => ?_)
        have ge_24 := S.le e_24
        have n_5__24 := q5.ne e_24
        have S := S.trans s_24
        have q5 := q5.sub s_24
        refine RL.store sh35 rfl rfl rfl hb_24 (by exact Nat.le_of_ble_eq_true rfl) (by rfl) rfl (fun w55 z55 hb_24 a55 => ?_)
        have S := S.upd a55 ge_24
        have q5 := q5.upd a55 n_5__24
        have hb_24 : Has w55 b_24 (y.cells) _ := hb_24.now (by kernel_rfl)
        refine RL.ev (.assign rfl) rfl rfl ?_
        refine RL.nil (RC.back ?_)
        refine RC.seq ?_
        refine RC.region rfl ?_
        refine RL.ev (.field0 fo35_1 rfl) rfl rfl ?_
        refine RL.store sh3 rfl rfl rfl hb_24 (by exact Nat.le_of_ble_eq_true rfl) (by rfl) rfl (fun w56 z56 hb_24 a56 => ?_)
        have S := S.upd a56 ge_24
        have q5 := q5.upd a56 n_5__24
        have hb_24 : Has w56 b_24 ((x0 y).cells) _ := hb_24
        refine RL.nil (RC.back ?_)
        refine RC.seq ?_
        refine RC.draw rfl mxo (by kernel_rfl) ?_
        refine RQ.ev (.move rfl) rfl rfl ?_
        refine RQ.ev (.move rfl) rfl rfl ?_
        refine RQ.ev (.indexS sl22 rfl rfl (idx_map (lt_of_get hm)) (l8.is (i := 0) (by simp only [List.length_map]; omega))) rfl rfl ?_
        refine RQ.ev (.fieldA fo35_0 rfl) rfl rfl ?_
        refine RQ.ev (.load1 sh3 rfl ((o8.sl.1.sub S).cell (enc := Node.cells) (j := 0) hm rfl)) rfl rfl ?_
        refine RQ.ev (.bin rfl rfl rfl) rfl rfl ?_
        refine RQ.ev (.move rfl) rfl rfl ?_
        refine RQ.split 163 rfl (fun h57 => ?_) (fun h57 => ?_)
        ·
          obtain ⟨hy, he⟩ := hgn (hkp.resolve_right (fun h => h.1 h57)).2
          have hmk := h57
          refine RQ.ev (.move rfl) rfl rfl ?_
          refine RQ.ev (.as (v' := .bool false) (.bin rfl rfl rfl) (congrArg Value.bool (decide_eq_false (fun h => h he)))) rfl rfl ?_
          refine RQ.ev (.pick_t rfl rfl) rfl rfl ?_
          refine RQ.ev (.move rfl) rfl rfl ?_
          refine RQ.ev (.move rfl) rfl rfl ?_
          refine RQ.ev (.move rfl) rfl rfl ?_
          refine RQ.ev (.indexS sl22 rfl rfl (idx_map (lt_of_get hm)) (l8.is (i := 0) (by simp only [List.length_map]; omega))) rfl rfl ?_
          refine RQ.ev (.fieldA fo35_0 rfl) rfl rfl ?_
          refine RQ.ev (.load1 sh3 rfl ((o8.sl.1.sub S).cell (enc := Node.cells) (j := 0) hm rfl)) rfl rfl ?_
          refine RQ.ev (.as (v' := .bool false) (.bin rfl rfl rfl) (congrArg Value.bool (decide_eq_false (fun h => h hmk)))) rfl rfl ?_
          refine RQ.ev (.move rfl) rfl rfl ?_
          refine RQ.off rfl rfl ?_
          refine RQ.off rfl rfl ?_
          refine RQ.off rfl rfl ?_
          refine RQ.off rfl rfl ?_
          refine RQ.off rfl rfl ?_
          refine RQ.off rfl rfl ?_
          refine RQ.off rfl rfl ?_
          refine RQ.off rfl rfl ?_
          refine RQ.off rfl rfl ?_
          refine RQ.off rfl rfl ?_
          refine RQ.ev (.pick_f rfl rfl) rfl rfl ?_
          refine RQ.ev (.pick_f rfl rfl) rfl rfl ?_
          refine RQ.nil (fun w58 s59 => RC.back ?_)
          have S := S.trans s59
          have q5 := q5.sub s59
          have hb_24 := hb_24.sub s59
          refine RC.cond_f rfl ?_
          refine RC.skip (RC.back ?_)
          refine RC.region rfl ?_
          refine RL.ev (.as (.bin rfl rfl rfl) (wi64 (y := ((k + 1 : Nat) : Int)) (by omega) (by omega))) rfl rfl ?_
          refine RL.ev (.move rfl) rfl rfl ?_
          exact RL.nil (fun a ka => ⟨k + 1, ⟨by omega, S⟩, by omega, ka.keep (keep_of (by repeat (first | exact trivial | refine And.intro rfl ?_)))⟩)
        ·
          obtain ⟨g, hgg, hgx⟩ := (hkp.resolve_left (fun h => h57 h.1)).2
          obtain ⟨hy, he⟩ := hgs _ hgg
          have hmk := h57
          refine RQ.off rfl rfl ?_
          refine RQ.off rfl rfl ?_
          refine RQ.ev (.pick_f rfl rfl) rfl rfl ?_
          refine RQ.ev (.move rfl) rfl rfl ?_
          refine RQ.ev (.move rfl) rfl rfl ?_
          refine RQ.ev (.move rfl) rfl rfl ?_
          refine RQ.ev (.indexS sl22 rfl rfl (idx_map (lt_of_get hm)) (l8.is (i := 0) (by simp only [List.length_map]; omega))) rfl rfl ?_
          refine RQ.ev (.fieldA fo35_0 rfl) rfl rfl ?_
          refine RQ.ev (.load1 sh3 rfl ((o8.sl.1.sub S).cell (enc := Node.cells) (j := 0) hm rfl)) rfl rfl ?_
          refine RQ.ev (.as (v' := .bool true) (.bin rfl rfl rfl) (congrArg Value.bool (decide_eq_true (hmk)))) rfl rfl ?_
          refine RQ.ev (.move rfl) rfl rfl ?_
          refine RQ.ev (.move rfl) rfl rfl ?_
          refine RQ.ev (.as (v' := .bool false) (.bin rfl rfl rfl) (congrArg Value.bool (decide_eq_false (fun h => h he)))) rfl rfl ?_
          refine RQ.ev (.move rfl) rfl rfl ?_
          refine RQ.ev (.loadR ((x0 y).cells) sh35 rfl hb_24.row rfl) rfl rfl ?_
          refine RQ.ev (.move rfl) rfl rfl ?_
          refine RQ.ev (.move rfl) rfl rfl ?_
          refine RQ.ev (.indexS sl22 rfl rfl (idx_map (lt_of_get hm)) (l8.is (i := 0) (by simp only [List.length_map]; omega))) rfl rfl ?_
          refine RQ.ev (.loadR (m.cells) sh35 rfl ((o8.sl.1.sub S).rowAt (enc := Node.cells) hm) rfl) rfl rfl ?_
          refine RQ.ev (.as (v' := .bool false) (.neS (xs := (x0 y).cells) (ys := m.cells) fk35 eg35 sh35 rfl rfl rfl rfl rfl) (congrArg Value.bool (by rw [hy, hgx, eqL_cells]; simp))) rfl rfl ?_
          refine RQ.ev (.pick_f rfl rfl) rfl rfl ?_
          refine RQ.ev (.pick_t rfl rfl) rfl rfl ?_
          refine RQ.ev (.pick_f rfl rfl) rfl rfl ?_
          refine RQ.nil (fun w60 s61 => RC.back ?_)
          have S := S.trans s61
          have q5 := q5.sub s61
          have hb_24 := hb_24.sub s61
          refine RC.cond_f rfl ?_
          refine RC.skip (RC.back ?_)
          refine RC.region rfl ?_
          refine RL.ev (.as (.bin rfl rfl rfl) (wi64 (y := ((k + 1 : Nat) : Int)) (by omega) (by omega))) rfl rfl ?_
          refine RL.ev (.move rfl) rfl rfl ?_
          exact RL.nil (fun a ka => ⟨k + 1, ⟨by omega, S⟩, by omega, ka.keep (keep_of (by repeat (first | exact trivial | refine And.intro rfl ?_)))⟩)
      ·
        have hb_5 := hb_5.sub S
        have o7 := o7.sub S
        have o8 := o8.sub S
        have hI := hI.sub S
        have szB := Nat.le_trans szB S.size
        have S := Sw.trans S
        refine RC.exit rfl (RC.back ?_)
        refine RC.region rfl ?_
        refine RL.ev (.as (.bin rfl rfl rfl) (wi64 (y := ((i + 1 : Nat) : Int)) (by omega) (by omega))) rfl rfl ?_
        refine RL.ev (.move rfl) rfl rfl ?_
        exact RL.nil (fun a ka => ⟨(i + 1, A, (na, fa, nc, fc), refs, nodes, live, last, (a7, _, c7), (a8, _, c8), M), ⟨⟨by omega, by omega, hK, hnc, hfc⟩, hb_5, o7, o8, hI, dI5, d7I, d8I, d78, szB, S⟩, by omega, ka.keep (keep_of (by repeat (first | exact trivial | refine And.intro rfl ?_)))⟩)
  ·
    refine RC.exit rfl (RC.back ?_)
    refine RC.seq ?_
    refine RC.region rfl ?_
    refine RL.call rfl ok12 (c_alive4 w4) rfl rfl ?_
    rintro _ w62 ⟨rfl, s63⟩
    have S := S.trans s63
    have hb_5 := hb_5.sub s63
    have o7 := o7.sub s63
    have o8 := o8.sub s63
    have hI := hI.sub s63
    have szB := Nat.le_trans szB s63.size
    refine RL.ev (.move rfl) rfl rfl ?_
    refine RL.ev (.move rfl) rfl rfl ?_
    refine RL.ev (.as (v' := .bool true) (.bin rfl rfl rfl) (congrArg Value.bool (decide_eq_true (rfl)))) rfl rfl ?_
    refine RL.ev (.pick_t rfl rfl) rfl rfl ?_
    refine RL.ev (.move rfl) rfl rfl ?_
    refine RL.ev (.field0 fo25_1 rfl) rfl rfl ?_
    refine RL.ev (.load1 sh23 rfl (hb_5.cell rfl)) rfl rfl ?_
    refine RL.ev (.len sl23 rfl) rfl rfl ?_
    refine RL.ev (.move rfl) rfl rfl ?_
    refine RL.ev (.move rfl) rfl rfl ?_
    refine RL.ev (.as (.bin rfl rfl rfl) (wi64 (y := (n : Int) - live) (by rfl) (by omega))) rfl rfl ?_
    refine RL.ev (.as (v' := .bool true) (.bin rfl rfl rfl) (congrArg Value.bool (decide_eq_true (by have := hlive; omega)))) rfl rfl ?_
    refine RL.ev (.pick_t rfl rfl) rfl rfl ?_
    refine RL.ev (.move rfl) rfl rfl ?_
    refine RL.ev (.loadR ([.slice na A.nodes.length nc, .slice fa A.free.length fc]) sh25 rfl hb_5.row rfl) rfl rfl ?_
    refine RL.call rfl ok14 ((aokB_yes hK.ok ▸ c_aRight A na fa nc fc w62 hI.now)) rfl rfl ?_
    rintro _ w64 ⟨rfl, s65⟩
    have S := S.trans s65
    have hb_5 := hb_5.sub s65
    have o7 := o7.sub s65
    have o8 := o8.sub s65
    have hI := hI.sub s65
    have szB := Nat.le_trans szB s65.size
    refine RL.ev (.pick_t rfl rfl) rfl rfl ?_
    refine RL.ev (.assign rfl) rfl rfl ?_
    refine RL.nil (RC.back ?_)
    refine RC.done (rs := [.tmp 4]) (vs := [_]) rfl rfl ⟨rfl, trivial⟩ ?_
    -- end 2
    exact ⟨rfl, S⟩
end Go.Proofs.Ytfcmbojlflgpmaa
