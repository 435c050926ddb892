/-
  The statement DequeQueue.
-/
import Derived.Test.YtefakjhfcgjhgaaDequeBack
set_option linter.unusedVariables false
set_option linter.unusedSimpArgs false
namespace Go.Proofs.Ytefakjhfcgjhgaa
open Go Go.XL

/-- what is left of a row behind so many that were taken off -/
def leftL (l : List Int) (back : Bool) (i : Nat) : List Int := if back then l.take (l.length - i) else l.drop i
theorem leftL_len (l : List Int) (back : Bool) (i : Nat) (h : i ≤ l.length) : (leftL l back i).length = l.length - i := by
  cases back
  · simp [leftL]
  · simp [leftL]
theorem leftL_pop {l : List Int} {back : Bool} {i : Nat} (h : i < l.length) : popL (leftL l back i) back = leftL l back (i + 1) ∧ popV (leftL l back i) back = if back then l.getD (l.length - 1 - i) 0 else l.getD i 0 := by
  cases back
  · simp [leftL, popL, popV, List.drop_drop, List.getD_eq_getElem?_getD]
  · have hl : (l.take (l.length - i)).length = l.length - i := by rw [List.length_take]; omega
    constructor
    · simp only [leftL, popL, if_true]
      rw [hl, List.take_take]
      congr 1; omega
    · simp only [leftL, popV, if_true]
      rw [hl, List.getD_eq_getElem?_getD, List.getElem?_take, if_pos (by omega), List.getD_eq_getElem?_getD]
      congr 2; omega
set_option maxHeartbeats 4000000 in
theorem law_DequeQueue (w : World) (l0 : List Int) (pa : Option Addr) (pc : Nat) (hlc : l0.length ≤ pc) (hcm : pc ≤ maxLen) (hs0 : Sl w pa 1 (l0.map fun x => [i6 x])) (hli0 : ∀ x ∈ l0, I64 x) (back : Bool) :
    FC Try.prog 4 [.slice pa l0.length pc, .bool back] w (Val (.bool true) w) := by
  have hll : l0.length ≤ 9223372036854775807 := Nat.le_trans hlc (Nat.le_trans hcm (by decide))
  obtain ⟨l, hl⟩ : ∃ l, l = l0.take 7 := ⟨_, rfl⟩
  have hl7 : l.length ≤ 7 := by rw [hl, List.length_take]; omega
  have hs : Sl w pa 1 (l.map fun x => [i6 x]) := by rw [hl, List.map_take]; exact hs0.take 7
  have hli : ∀ x ∈ l, I64 x := fun x hx => hli0 x (List.mem_of_mem_take (hl ▸ hx))
  refine FC.intro Try.func4 rfl Try.ntmps4 rfl ?_
  have S := Sub.refl w
  refine RC.seq ?_
  refine RC.region rfl ?_
  refine RL.ev (.assign rfl) rfl rfl ?_
  refine RL.nil (RC.back ?_)
  refine RC.seq ?_
  refine RC.region rfl ?_
  refine RL.ev (.move rfl) rfl rfl ?_
  refine RL.ev (.move rfl) rfl rfl ?_
  refine RL.ev (.len sl22 rfl) rfl rfl ?_
  refine RL.ev (.min2 rfl rfl) rfl rfl ?_
  refine RL.ev (.as (v' := .slice pa l.length pc) (.sliceHi sl22 rfl rfl (by split <;> omega)) (by rw [hl, ← min_len]; rfl)) rfl rfl ?_
  refine RL.ev (.assign rfl) rfl rfl ?_
  refine RL.nil (RC.back ?_)
  refine RC.seq ?_
  refine RC.region rfl ?_
  refine RL.call rfl ok15 (c_aNew 512 ⟨by decide, by decide⟩ w) rfl rfl ?_
  rintro _ w1 ⟨na0, fa0, nc0, fc0, rfl, hnc0, hfc0, hn00, s2⟩
  have hA := Ft.new hn00 s2
  have S := S.trans s2
  refine RL.ev (.move rfl) rfl rfl ?_
  refine RL.ev (.extract rfl rfl) rfl rfl ?_
  refine RL.ev (.extract rfl rfl) rfl rfl ?_
  refine RL.alloc ze26 rfl rfl (fun b_5 w_5 e_5 z_5 hb_5 s_5 => ?_)
  have ge_5 := S.le e_5
  have d_hA_b_5 := hA.neNew e_5
  have S := S.trans s_5
  have hA := hA.sub s_5
  refine RL.store sh26 rfl rfl rfl hb_5 (by exact Nat.le_of_ble_eq_true rfl) (by rfl) rfl (fun w3 z3 hb_5 a3 => ?_)
  have S := S.upd a3 ge_5
  have hA := hA.updD a3 d_hA_b_5
  have hb_5 : Has w3 b_5 ([.slice na0 (newA 512).nodes.length nc0, .slice fa0 (newA 512).free.length fc0]) _ := hb_5.now (by kernel_rfl)
  refine RL.ev (.assign rfl) rfl rfl ?_
  refine RL.nil (RC.back ?_)
  refine RC.seq ?_
  refine RC.region rfl ?_
  refine RL.ev (.assign rfl) rfl rfl ?_
  refine RL.nil (RC.back ?_)
  refine RC.seq ?_
  refine RC.seq ?_
  refine RC.region rfl ?_
  refine RL.ev (.move rfl) rfl rfl ?_
  refine RL.ev (.as (v' := .int .i64 (l.length : Int)) (.len sl22 rfl) (by rfl)) rfl rfl ?_
  refine RL.ev (.move rfl) rfl rfl ?_
  refine RL.nil (RC.back ?_)
  refine RC.block ?_
  refine RC.loop (α := Nat × (Ar × Option Addr × Option Addr × Nat × Nat) × Int × (Nat → Prop)) (fun x => [(0, .slice pa l.length pc), (1, .bool back), (5, .pointer (some ⟨b_5, 0, none⟩)), (6, .int .i64 0), (7, .int .u64 x.2.2.1), (27, .slice pa l.length pc), (28, .int .i64 (l.length : Int)), (29, .int .i64 (x.1 : Int))]) (fun x w4 => (x.1 ≤ l.length ∧ U64 x.2.2.1 ∧ AOk x.2.1.1 ∧ (∃ P, IsR x.2.1.1 x.2.2.1 (l.take x.1) P) ∧ 512 ≤ x.2.1.1.free.length + 9 * x.1 ∧ x.2.1.1.nodes.length ≤ x.2.1.2.2.2.1 ∧ x.2.1.1.free.length ≤ x.2.1.2.2.2.2) ∧ Has w4 b_5 [.slice x.2.1.2.1 x.2.1.1.nodes.length x.2.1.2.2.2.1, .slice x.2.1.2.2.1 x.2.1.1.free.length x.2.1.2.2.2.2] 26 ∧ Ft x.2.2.2 (fun u => ArR u x.2.1.2.1 x.2.1.2.2.1 x.2.1.1) w4 ∧ (∀ k, x.2.2.2 k → k ≠ b_5) ∧ Sub w w4) (fun x => l.length - x.1) (0, (newA 512, na0, fa0, nc0, fc0), 0, _) (keep_of (by repeat (first | exact trivial | refine And.intro rfl ?_))) (⟨⟨Nat.zero_le _, zu0, newA_ok ⟨by decide, by decide⟩, ⟨[], .nil⟩, by rw [newA_f]; exact Nat.le_add_right _ _, hnc0, hfc0⟩, hb_5, hA, d_hA_b_5, S⟩) (fun x w4 hJ => ?_)
  obtain ⟨i, ⟨A, na, fa, nc, fc⟩, r, M⟩ := x; obtain ⟨⟨hi, hu, hok, ⟨P, hR⟩, hf, hnc, hfc⟩, hb_5, hA, dA, S⟩ := hJ; simp only [] at hi hu hok hR hf hnc hfc hb_5 hA dA; have hli2 : (l.take i).length = i := (by rw [List.length_take]; omega)
  refine RC.seq ?_
  refine RC.region rfl ?_
  refine RL.ev (.bin rfl rfl rfl) rfl rfl ?_
  refine RL.nil (RC.back ?_)
  refine RC.seq ?_
  refine RC.cond_dec rfl (fun h5 => ?_) (fun h5 => ?_)
  ·
    obtain ⟨x, hx⟩ := getSome (l := l) (i := i) (by omega)
    have hx64 := hli x (List.mem_of_getElem? hx)
    refine RC.skip (RC.back ?_)
    refine RC.seq ?_
    refine RC.block ?_
    refine RC.seq ?_
    refine RC.region rfl ?_
    refine RL.ev (.indexS sl22 rfl rfl (by omega) (hs.is (i := 0) (by simp only [List.length_map]; omega))) rfl rfl ?_
    refine RL.ev (.load1 sh2 rfl ((hs.sub S).one (enc := i6) (i := i) hx)) rfl rfl ?_
    refine RL.ev (.assign rfl) rfl rfl ?_
    refine RL.nil (RC.back ?_)
    refine RC.seq ?_
    refine RC.region rfl ?_
    refine RL.ev (.loadR ([.slice na A.nodes.length nc, .slice fa A.free.length fc]) sh26 rfl hb_5.row rfl) rfl rfl ?_
    refine RL.ev (.move rfl) rfl rfl ?_
    refine RL.ev (.move rfl) rfl rfl ?_
    refine RL.call rfl ok11 (c_dpush A na fa nc fc hnc hfc r true x hu hx64 M w4 hA) rfl rfl ?_
    rintro _ w6 ⟨s7, na', fa', nc', fc', A', r', e', M', rfl, hu', hnc', hfc', hA', hup, hpp⟩
    have d_hA'_b_5 := upNe hup dA hb_5.lt
    have S := S.trans s7
    have hb_5 := hb_5.sub s7
    have hA := hA.sub s7
    obtain ⟨rfl, hE, hok', hf', P', hR'⟩ := hpp.good hok hR (by omega) (by omega)
    have hpl : pushL (l.take i) true x = l.take (i + 1) := (by rw [List.take_add_one, hx]; rfl)
    rw [hpl] at hR'
    refine RL.ev (.move rfl) rfl rfl ?_
    refine RL.ev (.extract rfl rfl) rfl rfl ?_
    refine RL.ev (.extract rfl rfl) rfl rfl ?_
    refine RL.ev (.extract rfl rfl) rfl rfl ?_
    refine RL.alloc ze26 rfl rfl (fun b_10 w_10 e_10 z_10 hb_10 s_10 => ?_)
    have ge_10 := S.le e_10
    have n_5__10 := hb_5.ne e_10
    have d_hA'_b_10 := hA'.neNew e_10
    have S := S.trans s_10
    have hb_5 := hb_5.sub s_10
    have hA' := hA'.sub s_10
    refine RL.store sh26 rfl rfl rfl hb_10 (by exact Nat.le_of_ble_eq_true rfl) (by rfl) rfl (fun w8 z8 hb_10 a8 => ?_)
    have S := S.upd a8 ge_10
    have hb_5 := hb_5.upd a8 n_5__10
    have hA' := hA'.updD a8 d_hA'_b_10
    have hb_10 : Has w8 b_10 ([.slice na' A'.nodes.length nc', .slice fa' A'.free.length fc']) _ := hb_10.now (by kernel_rfl)
    refine RL.ev (.assign rfl) rfl rfl ?_
    refine RL.ev (.assign rfl) rfl rfl ?_
    refine RL.nil (RC.back ?_)
    refine RC.seq ?_
    refine RC.seq ?_
    refine RC.region rfl ?_
    refine RL.ev (.move rfl) rfl rfl ?_
    refine RL.ev (.as (v' := .bool false) (.bin rfl rfl rfl) (congrArg Value.bool (decide_eq_false (fun h => h rfl)))) rfl rfl ?_
    refine RL.nil (RC.back ?_)
    refine RC.cond_f rfl ?_
    refine RC.skip (RC.back ?_)
    refine RC.region rfl ?_
    refine RL.ev (.loadR ([.slice na' A'.nodes.length nc', .slice fa' A'.free.length fc']) sh26 rfl hb_10.row rfl) rfl rfl ?_
    refine RL.ev (.move rfl) rfl rfl ?_
    refine RL.store sh26 rfl rfl rfl hb_5 (by exact Nat.le_of_ble_eq_true rfl) (by rfl) rfl (fun w9 z9 hb_5 a9 => ?_)
    have S := S.upd a9 ge_5
    have hA' := hA'.updD a9 d_hA'_b_5
    have hb_10 := hb_10.upd a9 n_5__10.symm
    have hb_5 : Has w9 b_5 ([.slice na' A'.nodes.length nc', .slice fa' A'.free.length fc']) _ := hb_5.now (by kernel_rfl)
    refine RL.ev (.assign rfl) rfl rfl ?_
    refine RL.nil (RC.back ?_)
    refine RC.region rfl ?_
    refine RL.ev (.as (.bin rfl rfl rfl) (wi64 (y := ((i + 1 : Nat) : Int)) (by omega) (by omega))) rfl rfl ?_
    refine RL.ev (.move rfl) rfl rfl ?_
    exact RL.nil (fun a ka => ⟨(i + 1, (A', na', fa', nc', fc'), r', M'), ⟨⟨by omega, hu', hok', ⟨P', hR'⟩, by show 512 ≤ A'.free.length + 9 * (i + 1); omega, hnc', hfc'⟩, hb_5, hA', d_hA'_b_5, S⟩, by omega, ka.keep (keep_of (by repeat (first | exact trivial | refine And.intro rfl ?_)))⟩)
  ·
    have hin : i = l.length := (by omega)
    have hR0 : IsR A r (leftL l back 0) P := (by have : leftL l back 0 = l.take i := (by cases back <;> simp [leftL, hin]); rw [this]; exact hR)
    refine RC.exit rfl (RC.back ?_)
    refine RC.seq ?_
    refine RC.seq ?_
    refine RC.region rfl ?_
    refine RL.ev (.move rfl) rfl rfl ?_
    refine RL.ev (.as (v' := .int .i64 (l.length : Int)) (.len sl22 rfl) (by rfl)) rfl rfl ?_
    refine RL.ev (.move rfl) rfl rfl ?_
    refine RL.nil (RC.back ?_)
    refine RC.block ?_
    refine RC.loop (α := Nat × (Ar × Option Addr × Option Addr × Nat × Nat) × Int × (Nat → Prop)) (fun x => [(0, .slice pa l.length pc), (1, .bool back), (5, .pointer (some ⟨b_5, 0, none⟩)), (6, .int .i64 0), (7, .int .u64 x.2.2.1), (62, .int .i64 (l.length : Int)), (63, .int .i64 (x.1 : Int))]) (fun x w10 => (x.1 ≤ l.length ∧ U64 x.2.2.1 ∧ AOk x.2.1.1 ∧ (∃ P, IsR x.2.1.1 x.2.2.1 (leftL l back x.1) P) ∧ 440 ≤ x.2.1.1.free.length + 9 * x.1 ∧ x.2.1.1.nodes.length ≤ x.2.1.2.2.2.1 ∧ x.2.1.1.free.length ≤ x.2.1.2.2.2.2) ∧ Has w10 b_5 [.slice x.2.1.2.1 x.2.1.1.nodes.length x.2.1.2.2.2.1, .slice x.2.1.2.2.1 x.2.1.1.free.length x.2.1.2.2.2.2] 26 ∧ Ft x.2.2.2 (fun u => ArR u x.2.1.2.1 x.2.1.2.2.1 x.2.1.1) w10 ∧ (∀ k, x.2.2.2 k → k ≠ b_5) ∧ Sub w w10) (fun x => l.length - x.1) (0, (A, na, fa, nc, fc), r, M) (keep_of (by repeat (first | exact trivial | refine And.intro rfl ?_))) (⟨⟨Nat.zero_le _, hu, hok, ⟨P, hR0⟩, by show 440 ≤ A.free.length + 9 * 0; omega, hnc, hfc⟩, hb_5, hA, dA, S⟩) (fun x w10 hJ => ?_)
    obtain ⟨i, ⟨A, na, fa, nc, fc⟩, r, M⟩ := x; obtain ⟨⟨hi, hu, hok, ⟨P, hR⟩, hf, hnc, hfc⟩, hb_5, hA, dA, S⟩ := hJ; simp only [] at hi hu hok hR hf hnc hfc hb_5 hA dA; have hli2 := leftL_len l back i hi
    refine RC.seq ?_
    refine RC.region rfl ?_
    refine RL.ev (.bin rfl rfl rfl) rfl rfl ?_
    refine RL.nil (RC.back ?_)
    refine RC.seq ?_
    refine RC.cond_dec rfl (fun h11 => ?_) (fun h11 => ?_)
    ·
      obtain ⟨x, hx⟩ := getSome (l := l) (i := i) (by omega)
      obtain ⟨y, hy⟩ := getSome (l := l) (i := l.length - 1 - i) (by omega)
      obtain ⟨hpl, hpv⟩ := leftL_pop (back := back) (show i < l.length by omega)
      refine RC.skip (RC.back ?_)
      refine RC.seq ?_
      refine RC.block ?_
      refine RC.seq ?_
      refine RC.region rfl ?_
      refine RL.ev (.move rfl) rfl rfl ?_
      refine RL.ev (.assign rfl) rfl rfl ?_
      refine RL.nil (RC.back ?_)
      refine RC.seq ?_
      refine RC.region rfl ?_
      refine RL.ev (.loadR ([.slice na A.nodes.length nc, .slice fa A.free.length fc]) sh26 rfl hb_5.row rfl) rfl rfl ?_
      refine RL.ev (.move rfl) rfl rfl ?_
      refine RL.ev (.move rfl) rfl rfl ?_
      refine RL.call rfl ok16 (c_dpop A na fa nc fc hnc hfc r back hu M w10 hA) rfl rfl ?_
      rintro _ w12 ⟨s13, na', fa', nc', fc', A', r', v', e', M', rfl, hu', _, hnc', hfc', hA', hup, _, _, hpp⟩
      have d_hA'_b_5 := upNe hup dA hb_5.lt
      have S := S.trans s13
      have hb_5 := hb_5.sub s13
      have hA := hA.sub s13
      obtain ⟨_, rfl, hv', hE, hok', hf', P', hR'⟩ := (pop_good hpp hok hR (by omega) (by omega)).resolve_left (fun h => by rw [h.1] at hli2; simp at hli2; omega)
      rw [hpl] at hR'
      rw [hpv, List.getD_eq_getElem?_getD, List.getD_eq_getElem?_getD, hx, hy] at hv'
      refine RL.ev (.move rfl) rfl rfl ?_
      refine RL.ev (.extract rfl rfl) rfl rfl ?_
      refine RL.ev (.extract rfl rfl) rfl rfl ?_
      refine RL.ev (.extract rfl rfl) rfl rfl ?_
      refine RL.ev (.extract rfl rfl) rfl rfl ?_
      refine RL.alloc ze26 rfl rfl (fun b_14 w_14 e_14 z_14 hb_14 s_14 => ?_)
      have ge_14 := S.le e_14
      have n_5__14 := hb_5.ne e_14
      have d_hA'_b_14 := hA'.neNew e_14
      have S := S.trans s_14
      have hb_5 := hb_5.sub s_14
      have hA' := hA'.sub s_14
      refine RL.store sh26 rfl rfl rfl hb_14 (by exact Nat.le_of_ble_eq_true rfl) (by rfl) rfl (fun w14 z14 hb_14 a14 => ?_)
      have S := S.upd a14 ge_14
      have hb_5 := hb_5.upd a14 n_5__14
      have hA' := hA'.updD a14 d_hA'_b_14
      have hb_14 : Has w14 b_14 ([.slice na' A'.nodes.length nc', .slice fa' A'.free.length fc']) _ := hb_14.now (by kernel_rfl)
      refine RL.ev (.assign rfl) rfl rfl ?_
      refine RL.ev (.assign rfl) rfl rfl ?_
      refine RL.ev (.assign rfl) rfl rfl ?_
      refine RL.nil (RC.back ?_)
      refine RC.seq ?_
      refine RC.seq ?_
      refine RC.region rfl ?_
      refine RL.ev (.move rfl) rfl rfl ?_
      refine RL.ev (.as (v' := .bool false) (.bin rfl rfl rfl) (congrArg Value.bool (decide_eq_false (fun h => h rfl)))) rfl rfl ?_
      refine RL.nil (RC.back ?_)
      refine RC.cond_f rfl ?_
      refine RC.skip (RC.back ?_)
      refine RC.seq ?_
      refine RC.region rfl ?_
      refine RL.ev (.loadR ([.slice na' A'.nodes.length nc', .slice fa' A'.free.length fc']) sh26 rfl hb_14.row rfl) rfl rfl ?_
      refine RL.ev (.move rfl) rfl rfl ?_
      refine RL.store sh26 rfl rfl rfl hb_5 (by exact Nat.le_of_ble_eq_true rfl) (by rfl) rfl (fun w15 z15 hb_5 a15 => ?_)
      have S := S.upd a15 ge_5
      have hA' := hA'.updD a15 d_hA'_b_5
      have hb_14 := hb_14.upd a15 n_5__14.symm
      have hb_5 : Has w15 b_5 ([.slice na' A'.nodes.length nc', .slice fa' A'.free.length fc']) _ := hb_5.now (by kernel_rfl)
      refine RL.ev (.assign rfl) rfl rfl ?_
      refine RL.nil (RC.back ?_)
      refine RC.seq ?_
      refine RC.region rfl ?_
      refine RL.ev (.move rfl) rfl rfl ?_
      refine RL.ev (.not rfl) rfl rfl ?_
      refine RL.ev (.move rfl) rfl rfl ?_
      refine RL.splitB 96 rfl (fun h16 => ?_) (fun h16 => ?_)
      ·
        obtain rfl : back = false := (by simpa using h16)
        refine RL.ev (.move rfl) rfl rfl ?_
        refine RL.ev (.move rfl) rfl rfl ?_
        refine RL.ev (.move rfl) rfl rfl ?_
        refine RL.ev (.indexS sl22 rfl rfl (by omega) (hs.is (i := 0) (by simp only [List.length_map]; omega))) rfl rfl ?_
        refine RL.ev (.load1 sh2 rfl ((hs.sub S).one (enc := i6) (i := i) hx)) rfl rfl ?_
        refine RL.ev (.as (v' := .bool false) (.bin rfl rfl rfl) (congrArg Value.bool (decide_eq_false (fun h => h hv')))) rfl rfl ?_
        refine RL.ev (.pick_t rfl rfl) rfl rfl ?_
        refine RL.ev (.move rfl) rfl rfl ?_
        refine RL.ev (.move rfl) rfl rfl ?_
        refine RL.ev (.move rfl) rfl rfl ?_
        refine RL.off rfl rfl ?_
        refine RL.off rfl rfl ?_
        refine RL.off rfl rfl ?_
        refine RL.off rfl rfl ?_
        refine RL.off rfl rfl ?_
        refine RL.off rfl rfl ?_
        refine RL.off rfl rfl ?_
        refine RL.off rfl rfl ?_
        refine RL.off rfl rfl ?_
        refine RL.off rfl rfl ?_
        refine RL.ev (.pick_f rfl rfl) rfl rfl ?_
        refine RL.ev (.pick_f rfl rfl) rfl rfl ?_
        refine RL.nil (RC.back ?_)
        refine RC.cond_f rfl ?_
        refine RC.skip (RC.back ?_)
        refine RC.region rfl ?_
        refine RL.ev (.as (.bin rfl rfl rfl) (wi64 (y := ((i + 1 : Nat) : Int)) (by omega) (by omega))) rfl rfl ?_
        refine RL.ev (.move rfl) rfl rfl ?_
        exact RL.nil (fun a ka => ⟨(i + 1, (A', na', fa', nc', fc'), r', M'), ⟨⟨by omega, hu', hok', ⟨P', hR'⟩, by show 440 ≤ A'.free.length + 9 * (i + 1); omega, hnc', hfc'⟩, hb_5, hA', d_hA'_b_5, S⟩, by omega, ka.keep (keep_of (by repeat (first | exact trivial | refine And.intro rfl ?_)))⟩)
      ·
        obtain rfl : back = true := (by simpa using h16)
        refine RL.off rfl rfl ?_
        refine RL.off rfl rfl ?_
        refine RL.off rfl rfl ?_
        refine RL.off rfl rfl ?_
        refine RL.off rfl rfl ?_
        refine RL.off rfl rfl ?_
        refine RL.ev (.pick_f rfl rfl) rfl rfl ?_
        refine RL.ev (.move rfl) rfl rfl ?_
        refine RL.ev (.move rfl) rfl rfl ?_
        refine RL.ev (.move rfl) rfl rfl ?_
        refine RL.ev (.move rfl) rfl rfl ?_
        refine RL.ev (.move rfl) rfl rfl ?_
        refine RL.ev (.move rfl) rfl rfl ?_
        refine RL.ev (.as (v' := .int .i64 (l.length : Int)) (.len sl22 rfl) (by rfl)) rfl rfl ?_
        refine RL.ev (.as (.bin rfl rfl rfl) (wi64 (y := (l.length : Int) - 1) (by rfl) (by omega))) rfl rfl ?_
        refine RL.ev (.move rfl) rfl rfl ?_
        refine RL.ev (.as (.bin rfl rfl rfl) (wi64 (y := ((l.length - 1 - i : Nat) : Int)) (by omega) (by omega))) rfl rfl ?_
        refine RL.ev (.indexS sl22 rfl rfl (by omega) (hs.is (i := 0) (by simp only [List.length_map]; omega))) rfl rfl ?_
        refine RL.ev (.load1 sh2 rfl ((hs.sub S).one (enc := i6) (i := l.length - 1 - i) hy)) rfl rfl ?_
        refine RL.ev (.as (v' := .bool false) (.bin rfl rfl rfl) (congrArg Value.bool (decide_eq_false (fun h => h hv')))) rfl rfl ?_
        refine RL.ev (.pick_t rfl rfl) rfl rfl ?_
        refine RL.ev (.pick_f rfl rfl) rfl rfl ?_
        refine RL.nil (RC.back ?_)
        refine RC.cond_f rfl ?_
        refine RC.skip (RC.back ?_)
        refine RC.region rfl ?_
        refine RL.ev (.as (.bin rfl rfl rfl) (wi64 (y := ((i + 1 : Nat) : Int)) (by omega) (by omega))) rfl rfl ?_
        refine RL.ev (.move rfl) rfl rfl ?_
        exact RL.nil (fun a ka => ⟨(i + 1, (A', na', fa', nc', fc'), r', M'), ⟨⟨by omega, hu', hok', ⟨P', hR'⟩, by show 440 ≤ A'.free.length + 9 * (i + 1); omega, hnc', hfc'⟩, hb_5, hA', d_hA'_b_5, S⟩, by omega, ka.keep (keep_of (by repeat (first | exact trivial | refine And.intro rfl ?_)))⟩)
    ·
      have hin : i = l.length := (by omega)
      have hr0 : r = 0 := len0_ref (P := P) (by have e : leftL l back i = [] := List.eq_nil_of_length_eq_zero (by omega); rw [e] at hR; exact hR)
      refine RC.exit rfl (RC.back ?_)
      refine RC.seq ?_
      refine RC.region rfl ?_
      refine RL.call rfl ok13 (c_alive11 w10) rfl rfl ?_
      rintro _ w17 ⟨rfl, s18⟩
      have S := S.trans s18
      have hb_5 := hb_5.sub s18
      have hA := hA.sub s18
      refine RL.ev (.move rfl) rfl rfl ?_
      refine RL.ev (.move rfl) rfl rfl ?_
      refine RL.ev (.as (v' := .bool true) (.bin rfl rfl rfl) (congrArg Value.bool (decide_eq_true (rfl)))) rfl rfl ?_
      refine RL.ev (.pick_t rfl rfl) rfl rfl ?_
      refine RL.ev (.move rfl) rfl rfl ?_
      refine RL.ev (.move rfl) rfl rfl ?_
      refine RL.ev (.as (v' := .bool true) (.bin rfl rfl rfl) (congrArg Value.bool (decide_eq_true (hr0)))) rfl rfl ?_
      refine RL.ev (.pick_t rfl rfl) rfl rfl ?_
      refine RL.ev (.assign rfl) rfl rfl ?_
      refine RL.nil (RC.back ?_)
      refine RC.done (rs := [.tmp 4]) (vs := [_]) rfl rfl ⟨rfl, trivial⟩ ?_
      -- end 1
      exact ⟨rfl, S⟩
end Go.Proofs.Ytefakjhfcgjhgaa
