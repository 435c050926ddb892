/-
  The statement TreapShape.
-/
import Derived.Test.YtekdjjppdijkmaaTreapLaws
set_option linter.unusedVariables false
set_option linter.unusedSimpArgs false
namespace Go.Proofs.Ytekdjjppdijkmaa
open Go Go.XL

theorem _root_.Go.XL.Ows.low {base base' : Nat} {w : World} {e : TypeId} {sz : Nat} {v : Value} {rows : List (List Value)} (h : Ows base w e sz v rows) (hb : base' ≤ base) : Ows base' w e sz v rows := by
  obtain ⟨⟨h1, h2⟩, h3⟩ := h
  refine ⟨⟨h1, h2.imp id ?_⟩, h3⟩
  rintro ⟨b, cap, ex, e, hb2, rest⟩
  exact ⟨b, cap, ex, e, Nat.le_trans hb hb2, rest⟩
theorem owNew {w : World} {e : TypeId} {sz b : Nat} {v : Value} {rows : List (List Value)} {w' : World} (h : Ows w.heap.size w' e sz v rows) (hb : b < w.heap.size) : ∀ k, ob v = some k → k ≠ b := fun k hk e => by have := (h.ge k hk).1; omega
/-! ### rows of keys -/
def rowS (f : Nat → Int) : Nat → List It
  | 0 => []
  | i + 1 => putL (rowS f i) (f i) (f i)
theorem rowS_srt (f : Nat → Int) : ∀ i, Srt (rowS f i)
  | 0 => List.Pairwise.nil
  | i + 1 => (rowS_srt f i).put
theorem rowS_len (f : Nat → Int) : ∀ i, (rowS f i).length ≤ i
  | 0 => Nat.le_refl _
  | i + 1 => Nat.le_trans (putL_len (rowS_srt f i)) (Nat.succ_le_succ (rowS_len f i))
theorem rowS_mem {f : Nat → Int} : ∀ {i : Nat} {x : It}, x ∈ rowS f i ↔ ∃ j, j < i ∧ x = ⟨f j, f j⟩
  | 0, x => by simp [rowS]
  | i + 1, x => by
    rw [rowS, ← putR_putL (rowS_srt f i), putR_mem (rowS_srt f i), rowS_mem]
    constructor
    · rintro (h | ⟨⟨j, hj, h⟩, _⟩)
      · exact ⟨i, by omega, h⟩
      · exact ⟨j, by omega, h⟩
    · rintro ⟨j, hj, h⟩
      by_cases e : x.k = f i
      · left
        rw [h] at e ⊢
        simp only [] at e
        rw [e]
      · refine .inr ⟨⟨j, ?_, h⟩, e⟩
        rcases Nat.lt_or_eq_of_le (Nat.le_of_lt_succ hj) with h2 | h2
        · exact h2
        · rw [h, h2] at e; exact absurd rfl e
theorem srt_ext : ∀ {L M : List It}, Srt L → Srt M → (∀ x, x ∈ L ↔ x ∈ M) → L = M
  | [], [], _, _, _ => rfl
  | [], y :: M, _, _, h => absurd ((h y).2 (by simp)) (by simp)
  | x :: L, [], _, _, h => absurd ((h x).1 (by simp)) (by simp)
  | x :: L, y :: M, hL, hM, h => by
    have h1 := List.pairwise_cons.1 hL
    have h2 := List.pairwise_cons.1 hM
    have exy : x = y := by
      rcases List.mem_cons.1 ((h x).1 (by simp)) with e | hx
      · exact e
      · rcases List.mem_cons.1 ((h y).2 (by simp)) with e | hy
        · exact e.symm
        · have := h2.1 x hx; have := h1.1 y hy; omega
    subst exy
    rw [srt_ext h1.2 h2.2 fun z => ?_]
    constructor
    · intro hz
      rcases List.mem_cons.1 ((h z).1 (List.mem_cons_of_mem _ hz)) with e | hz2
      · have := h1.1 z hz; rw [e] at this; omega
      · exact hz2
    · intro hz
      rcases List.mem_cons.1 ((h z).2 (List.mem_cons_of_mem _ hz)) with e | hz2
      · have := h2.1 z hz; rw [e] at this; omega
      · exact hz2
def k50 (l : List Int) (j : Nat) : Int := (l.getD j 0) % 50
def rot50 (l : List Int) (c n : Nat) (j : Nat) : Int := k50 l ((j + c) % n)
theorem rot_row (l : List Int) (c n : Nat) (hn : 0 < n) : rowS (rot50 l c n) n = rowS (k50 l) n := by
  refine srt_ext (rowS_srt _ _) (rowS_srt _ _) fun x => ?_
  rw [rowS_mem, rowS_mem]
  constructor
  · rintro ⟨j, hj, h⟩
    exact ⟨(j + c) % n, Nat.mod_lt _ hn, h⟩
  · rintro ⟨j, hj, h⟩
    refine ⟨(j + (n - c % n)) % n, Nat.mod_lt _ hn, ?_⟩
    unfold rot50
    have e : ((j + (n - c % n)) % n + c) % n = j := by
      have h1 := Nat.mod_lt c hn
      have h2 := Nat.div_add_mod c n
      rw [Nat.mod_add_mod]
      have h3 : j + (n - c % n) + c = j + n * (c / n + 1) := by rw [Nat.mul_add]; omega
      rw [h3, Nat.add_mul_mod_self_left, Nat.mod_eq_of_lt hj]
    rw [e, h]
theorem k50_rng (l : List Int) (j : Nat) : 0 ≤ k50 l j ∧ k50 l j < 50 := by unfold k50; omega
theorem rowS_ok {f : Nat → Int} (hf : ∀ j, 0 ≤ f j ∧ f j < 50) (i : Nat) : ∀ z ∈ rowS f i, z.ok := by
  intro z hz
  obtain ⟨j, _, rfl⟩ := rowS_mem.1 hz
  have := hf j
  exact ⟨by unfold I64; show _ ≤ f j ∧ f j ≤ _; omega, by unfold I64; show _ ≤ f j ∧ f j ≤ _; omega⟩
set_option maxHeartbeats 2000000 in
theorem law_TreapShape (w : World) (l0 : List Int) (pa : Option Addr) (pc : Nat) (hlc : l0.length ≤ pc) (hcm : pc ≤ maxLen) (hs0 : Sl w pa 1 (l0.map fun x => [i6 x])) (hli0 : ∀ x ∈ l0, I64 x) (n0 : Int) (wn : (Lit.int .i64 n0).wf = true) :
    FC Try.prog 7 [.slice pa l0.length pc, .int .i64 n0] w (Val (.bool true) w) := by
  have hll : l0.length ≤ 9223372036854775807 := Nat.le_trans hlc (Nat.le_trans hcm (by decide))
  have hn0 : -9223372036854775808 ≤ n0 ∧ n0 ≤ 9223372036854775807 := wfI wn
  obtain ⟨n, hn⟩ : ∃ n, n = (l0.take 8).length := ⟨_, rfl⟩
  obtain ⟨l, hl⟩ : ∃ l, l = l0.take 8 := ⟨_, rfl⟩
  have hnl : l.length = n := by rw [hl, hn]
  have hn8 : n ≤ 8 ∧ n ≤ l0.length ∧ (n = 8 ∨ n = l0.length) := by rw [hn, List.length_take]; omega
  have hs : Sl w pa 1 (l.map fun x => [i6 x]) := by rw [hl, List.map_take]; exact hs0.take 8
  have hli : ∀ x ∈ l, I64 x := fun x hx => hli0 x (List.mem_of_mem_take (hl ▸ hx))
  obtain ⟨c, hc, hc0⟩ : ∃ c : Nat, (0 < n → (c : Int) = n0.tmod n + n) ∧ c ≤ 16 := by
    by_cases h : 0 < n
    · have := norm_mod n0 n (by omega)
      exact ⟨(n0.tmod n + n).toNat, fun _ => by omega, by omega⟩
    · exact ⟨0, fun h' => absurd h' h, by decide⟩
  refine FC.intro Try.func7 rfl Try.ntmps7 rfl ?_
  have S := Sub.refl w
  refine RC.seq ?_
  refine RC.region rfl ?_
  refine RL.ev (.assign rfl) rfl rfl ?_
  refine RL.nil (RC.back ?_)
  refine RC.seq ?_
  refine RC.region rfl ?_
  refine RL.ev (.move rfl) rfl rfl ?_
  refine RL.ev (.move rfl) rfl rfl ?_
  refine RL.ev (.len sl22 rfl) rfl rfl ?_
  refine RL.ev (.as (v' := .int .i64 (n : Int)) (.min2 rfl rfl) (by congr 1; split <;> omega)) rfl rfl ?_
  refine RL.ev (.as (v' := .slice pa l.length pc) (.sliceHi sl22 rfl rfl (by omega)) (by rw [hnl]; rfl)) rfl rfl ?_
  refine RL.ev (.assign rfl) rfl rfl ?_
  refine RL.nil (RC.back ?_)
  refine RC.seq ?_
  refine RC.region rfl ?_
  refine RL.ev (.move rfl) rfl rfl ?_
  refine RL.ev (.as (v' := .int .i64 (n : Int)) (.len sl22 rfl) (by rw [hnl])) rfl rfl ?_
  refine RL.ev (.assign rfl) rfl rfl ?_
  refine RL.nil (RC.back ?_)
  refine RC.seq ?_
  refine RC.region rfl ?_
  refine RL.call rfl ok26 (c_aNew 512 ⟨by decide, by decide⟩ w) rfl rfl ?_
  rintro _ w1 ⟨na0, fa0, nc0, fc0, rfl, hnc0, hfc0, hn00, s2⟩
  have hA := Ft.new hn00 s2
  have S := S.trans s2
  refine RL.ev (.move rfl) rfl rfl ?_
  refine RL.ev (.extract rfl rfl) rfl rfl ?_
  refine RL.ev (.extract rfl rfl) rfl rfl ?_
  refine RL.alloc ze28 rfl rfl (fun b_6 w_6 e_6 z_6 hb_6 s_6 => ?_)
  have ge_6 := S.le e_6
  have d_hA_b_6 := hA.neNew e_6
  have S := S.trans s_6
  have hA := hA.sub s_6
  refine RL.store sh28 rfl rfl rfl hb_6 (by exact Nat.le_of_ble_eq_true rfl) (by rfl) rfl (fun w3 z3 hb_6 a3 => ?_)
  have S := S.upd a3 ge_6
  have hA := hA.updD a3 d_hA_b_6
  have hb_6 : Has w3 b_6 ([.slice na0 (newA 512).nodes.length nc0, .slice fa0 (newA 512).free.length fc0]) _ := hb_6.now (by kernel_rfl)
  refine RL.ev (.assign rfl) rfl rfl ?_
  refine RL.nil (RC.back ?_)
  refine RC.seq ?_
  refine RC.region rfl ?_
  refine RL.call rfl ok26 (c_aNew 512 ⟨by decide, by decide⟩ w3) rfl rfl ?_
  rintro _ w4 ⟨na1, fa1, nc1, fc1, rfl, hnc1, hfc1, hn01, s5⟩
  have d_hB_b_6 := neFt (w' := w4) (fun _ (h : False) => h.elim) hb_6.lt
  have hB := Ft.new hn01 s5
  have S := S.trans s5
  have hA := hA.sub s5
  have hb_6 := hb_6.sub s5
  refine RL.ev (.move rfl) rfl rfl ?_
  refine RL.ev (.extract rfl rfl) rfl rfl ?_
  refine RL.ev (.extract rfl rfl) rfl rfl ?_
  refine RL.alloc ze28 rfl rfl (fun b_8 w_8 e_8 z_8 hb_8 s_8 => ?_)
  have ge_8 := S.le e_8
  have n_6__8 := hb_6.ne e_8
  have d_hA_b_8 := hA.neNew e_8
  have d_hB_b_8 := hB.neNew e_8
  have S := S.trans s_8
  have hA := hA.sub s_8
  have hb_6 := hb_6.sub s_8
  have hB := hB.sub s_8
  refine RL.store sh28 rfl rfl rfl hb_8 (by exact Nat.le_of_ble_eq_true rfl) (by rfl) rfl (fun w6 z6 hb_8 a6 => ?_)
  have S := S.upd a6 ge_8
  have hA := hA.updD a6 d_hA_b_8
  have hb_6 := hb_6.upd a6 n_6__8
  have hB := hB.updD a6 d_hB_b_8
  have hb_8 : Has w6 b_8 ([.slice na1 (newA 512).nodes.length nc1, .slice fa1 (newA 512).free.length fc1]) _ := hb_8.now (by kernel_rfl)
  refine RL.ev (.assign rfl) rfl rfl ?_
  refine RL.nil (RC.back ?_)
  refine RC.seq ?_
  refine RC.region rfl ?_
  refine RL.ev (.assign rfl) rfl rfl ?_
  refine RL.ev (.assign rfl) rfl rfl ?_
  refine RL.nil (RC.back ?_)
  refine RC.seq ?_
  refine RC.region rfl ?_
  refine RL.buildSlice0 sl23 rfl rfl (fun b_37 w_37 e_37 z_37 hb_37 s_37 => ?_)
  have ge_37 := S.le e_37
  have n_6__37 := hb_6.ne e_37
  have n_8__37 := hb_8.ne e_37
  have d_hA_b_37 := hA.neNew e_37
  have d_hB_b_37 := hB.neNew e_37
  have S := S.trans s_37
  have hA := hA.sub s_37
  have hb_6 := hb_6.sub s_37
  have hB := hB.sub s_37
  have hb_8 := hb_8.sub s_37
  refine RL.ev (.assign rfl) rfl rfl ?_
  refine RL.nil (RC.back ?_)
  refine RC.seq ?_
  refine RC.seq ?_
  refine RC.region rfl ?_
  refine RL.ev (.move rfl) rfl rfl ?_
  refine RL.ev (.len sl22 rfl) rfl rfl ?_
  refine RL.ev (.move rfl) rfl rfl ?_
  refine RL.nil (RC.back ?_)
  refine RC.block ?_
  refine RC.loop (α := Nat × (Ar × (Option Addr × Option Addr × Nat × Nat) × Int × (Nat → Prop)) × (Ar × (Option Addr × Option Addr × Nat × Nat) × Int × (Nat → Prop)) × (Option Addr × Nat × Nat)) (fun x => [(0, .slice pa l.length pc), (1, .int .i64 n0), (5, .int .i64 (n : Int)), (6, .pointer (some ⟨b_6, 0, none⟩)), (7, .int .i64 0), (8, .pointer (some ⟨b_8, 0, none⟩)), (9, .int .i64 0), (10, .int .u64 x.2.1.2.2.1), (11, .int .u64 x.2.2.1.2.2.1), (12, .slice x.2.2.2.1 x.2.2.2.2.1 x.2.2.2.2.2), (38, .slice pa l.length pc), (39, .int .i64 (l.length : Int)), (40, .int .i64 (x.1 : Int))]) (fun x w7 => (x.1 ≤ n ∧ (U64 x.2.1.2.2.1 ∧ AOk x.2.1.1 ∧ IsT x.2.1.1 x.2.1.2.2.1 (rowS (k50 l) x.1) ∧ 512 ≤ x.2.1.1.free.length + 9 * x.1 ∧ x.2.1.1.nodes.length ≤ x.2.1.2.1.2.2.1 ∧ x.2.1.1.free.length ≤ x.2.1.2.1.2.2.2) ∧ (U64 x.2.2.1.2.2.1 ∧ AOk x.2.2.1.1 ∧ IsT x.2.2.1.1 x.2.2.1.2.2.1 (rowS (rot50 l c n) x.1) ∧ 512 ≤ x.2.2.1.1.free.length + 9 * x.1 ∧ x.2.2.1.1.nodes.length ≤ x.2.2.1.2.1.2.2.1 ∧ x.2.2.1.1.free.length ≤ x.2.2.1.2.1.2.2.2)) ∧ Has w7 b_6 [.slice x.2.1.2.1.1 x.2.1.1.nodes.length x.2.1.2.1.2.2.1, .slice x.2.1.2.1.2.1 x.2.1.1.free.length x.2.1.2.1.2.2.2] 28 ∧ Has w7 b_8 [.slice x.2.2.1.2.1.1 x.2.2.1.1.nodes.length x.2.2.1.2.1.2.2.1, .slice x.2.2.1.2.1.2.1 x.2.2.1.1.free.length x.2.2.1.2.1.2.2.2] 28 ∧ Ft x.2.1.2.2.2 (fun u => ArR u x.2.1.2.1.1 x.2.1.2.1.2.1 x.2.1.1) w7 ∧ Ft x.2.2.1.2.2.2 (fun u => ArR u x.2.2.1.2.1.1 x.2.2.1.2.1.2.1 x.2.2.1.1) w7 ∧ (∀ k, x.2.1.2.2.2 k → k ≠ b_6) ∧ (∀ k, x.2.1.2.2.2 k → k ≠ b_8) ∧ (∀ k, x.2.2.1.2.2.2 k → k ≠ b_6) ∧ (∀ k, x.2.2.1.2.2.2 k → k ≠ b_8) ∧ Ows w.heap.size w7 42 2 (.slice x.2.2.2.1 x.2.2.2.2.1 x.2.2.2.2.2) ((rowS (k50 l) x.1).map It.cells) ∧ (∀ k, ob (.slice x.2.2.2.1 x.2.2.2.2.1 x.2.2.2.2.2) = some k → k ≠ b_6) ∧ (∀ k, ob (.slice x.2.2.2.1 x.2.2.2.2.1 x.2.2.2.2.2) = some k → k ≠ b_8) ∧ Sub w w7) (fun x => n - x.1) (0, (newA 512, (na0, fa0, nc0, fc0), 0, _), (newA 512, (na1, fa1, nc1, fc1), 0, _), (some ⟨b_37, 0, none⟩, 0, 0)) (keep_of (by repeat (first | exact trivial | refine And.intro rfl ?_))) (⟨⟨Nat.zero_le _, ⟨u0, newA_ok ⟨by decide, by decide⟩, .nil, by rw [newA_free]; exact Nat.le_add_right _ _, hnc0, hfc0⟩, ⟨u0, newA_ok ⟨by decide, by decide⟩, .nil, by rw [newA_free]; exact Nat.le_add_right _ _, hnc1, hfc1⟩⟩, hb_6, hb_8, hA, hB, d_hA_b_6, d_hA_b_8, d_hB_b_6, d_hB_b_8, Ows.lit0 hb_37 (by omega), fun k hk e => n_6__37 (e.symm.trans (obLit hk).symm), fun k hk e => n_8__37 (e.symm.trans (obLit hk).symm), S⟩) (fun x w7 hJ => ?_)
  obtain ⟨i, ⟨A, ⟨na, fa, nc, fc⟩, r1, M1⟩, ⟨B, ⟨nb, fb, ncb, fcb⟩, r2, M2⟩, ⟨ra, rm, rc⟩⟩ := x; obtain ⟨⟨hi, ⟨hu1, hA1, hT1, hf1, hnc, hfc⟩, ⟨hu2, hA2, hT2, hf2, hncb, hfcb⟩⟩, hb_6, hb_8, hA, hB, dA6, dA8, dB6, dB8, o, dO6, dO8, S⟩ := hJ; simp only [] at hi hu1 hA1 hT1 hf1 hnc hfc hu2 hA2 hT2 hf2 hncb hfcb hb_6 hb_8 hA hB dA6 dA8 dB6 dB8 o dO6 dO8; obtain rfl := o.sl.2; have hl1 := rowS_len (k50 l) i; have hl2 := rowS_len (rot50 l c n) i
  refine RC.seq ?_
  refine RC.region rfl ?_
  refine RL.ev (.bin rfl rfl rfl) rfl rfl ?_
  refine RL.nil (RC.back ?_)
  refine RC.seq ?_
  refine RC.cond_dec rfl (fun h8 => ?_) (fun h8 => ?_)
  ·
    have hn1 : 0 < n := (by omega)
    have hcc := hc hn1
    obtain ⟨x, hx⟩ := getSome (l := l) (i := i) (by omega)
    obtain ⟨y, hy⟩ := getSome (l := l) (i := (i + c) % n) (by rw [hnl]; exact Nat.mod_lt _ hn1)
    have hxi : -9223372036854775808 ≤ x ∧ x ≤ 9223372036854775807 := hli x (List.mem_of_getElem? hx)
    have hyi : -9223372036854775808 ≤ y ∧ y ≤ 9223372036854775807 := hli y (List.mem_of_getElem? hy)
    have nmx := norm_mod x 50 (by decide)
    have nmy := norm_mod y 50 (by decide)
    have hmodlt := Nat.mod_lt (i + c) hn1
    have hkx : k50 l i = x % 50 := (by unfold k50; rw [List.getD_eq_getElem?_getD, hx]; rfl)
    have hky : rot50 l c n i = y % 50 := (by unfold rot50 k50; rw [List.getD_eq_getElem?_getD, hy]; rfl)
    refine RC.skip (RC.back ?_)
    refine RC.seq ?_
    refine RC.block ?_
    refine RC.seq ?_
    refine RC.region rfl ?_
    refine RL.ev (.move rfl) rfl rfl ?_
    refine RL.ev (.assign rfl) rfl rfl ?_
    refine RL.nil (RC.back ?_)
    refine RC.seq ?_
    refine RC.draw rfl mxo (by kernel_rfl) ?_
    refine RQ.ev (.move rfl) rfl rfl ?_
    refine RQ.ev (.move rfl) rfl rfl ?_
    refine RQ.ev (.indexS sl22 rfl rfl (by omega) (hs.is (i := 0) (by simp only [List.length_map]; omega))) rfl rfl ?_
    refine RQ.ev (.load1 sh2 rfl ((hs.sub S).one (enc := i6) (i := i) hx)) rfl rfl ?_
    refine RQ.ev (.rem rfl rfl (by decide)) rfl rfl ?_
    refine RQ.ev (.as (.bin rfl rfl rfl) (wi64 (y := x.tmod 50 + 50) (by rfl) (by omega))) rfl rfl ?_
    refine RQ.ev (.as (v' := .int .i64 (x % 50)) (.rem rfl rfl (by decide)) (by rw [nmx.2.2])) rfl rfl ?_
    refine RQ.ev (.move rfl) rfl rfl ?_
    refine RQ.ev (.move rfl) rfl rfl ?_
    refine RQ.ev (.move rfl) rfl rfl ?_
    refine RQ.ev (.move rfl) rfl rfl ?_
    refine RQ.ev (.rem rfl rfl (by omega)) rfl rfl ?_
    refine RQ.ev (.move rfl) rfl rfl ?_
    refine RQ.ev (.as (.bin rfl rfl rfl) (wi64 (y := (c : Int)) (by rw [hcc]) (by omega))) rfl rfl ?_
    refine RQ.ev (.as (.bin rfl rfl rfl) (wi64 (y := ((i + c : Nat) : Int)) (by omega) (by omega))) rfl rfl ?_
    refine RQ.ev (.move rfl) rfl rfl ?_
    refine RQ.ev (.as (v' := .int .i64 (((i + c) % n : Nat) : Int)) (.rem rfl rfl (by omega)) (by rw [Int.tmod_eq_emod_of_nonneg (by omega)]; rfl)) rfl rfl ?_
    refine RQ.ev (.indexS sl22 rfl rfl (by omega) (hs.is (i := 0) (by simp only [List.length_map]; omega))) rfl rfl ?_
    refine RQ.ev (.load1 sh2 rfl ((hs.sub S).one (enc := i6) (i := (i + c) % n) hy)) rfl rfl ?_
    refine RQ.ev (.rem rfl rfl (by decide)) rfl rfl ?_
    refine RQ.ev (.as (.bin rfl rfl rfl) (wi64 (y := y.tmod 50 + 50) (by rfl) (by omega))) rfl rfl ?_
    refine RQ.ev (.as (v' := .int .i64 (y % 50)) (.rem rfl rfl (by decide)) (by rw [nmy.2.2])) rfl rfl ?_
    refine RQ.ev (.assign rfl) rfl rfl ?_
    refine RQ.ev (.assign rfl) rfl rfl ?_
    refine RQ.nil (fun w9 s10 => RC.back ?_)
    have S := S.trans s10
    have hb_6 := hb_6.sub s10
    have hb_8 := hb_8.sub s10
    have hA := hA.sub s10
    have hB := hB.sub s10
    have o := o.sub s10
    refine RC.seq ?_
    refine RC.region rfl ?_
    refine RL.ev (.loadR ([.slice na A.nodes.length nc, .slice fa A.free.length fc]) sh28 rfl hb_6.row rfl) rfl rfl ?_
    refine RL.ev (.move rfl) rfl rfl ?_
    refine RL.ev (.move rfl) rfl rfl ?_
    refine RL.ev (.move rfl) rfl rfl ?_
    refine RL.call rfl ok27 (c_tput A na fa nc fc hnc hfc r1 (x % 50) (x % 50) hu1 (by unfold I64; omega) (by unfold I64; omega) M1 w9 hA) rfl rfl ?_
    rintro _ w11 ⟨s12, na', fa', nc', fc', A', r1', e1, M1', rfl, hu1', hnc', hfc', hA', hup1, hpp⟩
    have d_hA'_b_6 := upNe hup1 dA6 hb_6.lt
    have d_hA'_b_8 := upNe hup1 dA8 hb_8.lt
    have S := S.trans s12
    have hb_6 := hb_6.sub s12
    have hb_8 := hb_8.sub s12
    have hA := hA.sub s12
    have hB := hB.sub s12
    have o := o.sub s12
    obtain ⟨rfl, hx1, hA1', hf1', hT1', hm1'⟩ := hpp.good ⟨hA1, _, hT1, by omega⟩ hT1 (by omega) (by omega) (by omega)
    refine RL.ev (.move rfl) rfl rfl ?_
    refine RL.ev (.extract rfl rfl) rfl rfl ?_
    refine RL.ev (.extract rfl rfl) rfl rfl ?_
    refine RL.ev (.extract rfl rfl) rfl rfl ?_
    refine RL.alloc ze28 rfl rfl (fun b_16 w_16 e_16 z_16 hb_16 s_16 => ?_)
    have ge_16 := S.le e_16
    have n_6__16 := hb_6.ne e_16
    have n_8__16 := hb_8.ne e_16
    have d_hB_b_16 := hB.neNew e_16
    have d_o_b_16 := o.neNew e_16
    have d_hA'_b_16 := hA'.neNew e_16
    have S := S.trans s_16
    have hb_6 := hb_6.sub s_16
    have hb_8 := hb_8.sub s_16
    have hB := hB.sub s_16
    have o := o.sub s_16
    have hA' := hA'.sub s_16
    refine RL.store sh28 rfl rfl rfl hb_16 (by exact Nat.le_of_ble_eq_true rfl) (by rfl) rfl (fun w13 z13 hb_16 a13 => ?_)
    have S := S.upd a13 ge_16
    have hb_6 := hb_6.upd a13 n_6__16
    have hb_8 := hb_8.upd a13 n_8__16
    have hB := hB.updD a13 d_hB_b_16
    have o := o.updD a13 d_o_b_16
    have hA' := hA'.updD a13 d_hA'_b_16
    have hb_16 : Has w13 b_16 ([.slice na' A'.nodes.length nc', .slice fa' A'.free.length fc']) _ := hb_16.now (by kernel_rfl)
    refine RL.ev (.assign rfl) rfl rfl ?_
    refine RL.ev (.assign rfl) rfl rfl ?_
    refine RL.nil (RC.back ?_)
    refine RC.seq ?_
    refine RC.region rfl ?_
    refine RL.ev (.loadR ([.slice nb B.nodes.length ncb, .slice fb B.free.length fcb]) sh28 rfl hb_8.row rfl) rfl rfl ?_
    refine RL.ev (.move rfl) rfl rfl ?_
    refine RL.ev (.move rfl) rfl rfl ?_
    refine RL.ev (.move rfl) rfl rfl ?_
    refine RL.call rfl ok27 (c_tput B nb fb ncb fcb hncb hfcb r2 (y % 50) (y % 50) hu2 (by unfold I64; omega) (by unfold I64; omega) M2 w13 hB) rfl rfl ?_
    rintro _ w14 ⟨s15, nb', fb', ncb', fcb', B', r2', e2, M2', rfl, hu2', hncb', hfcb', hB', hup2, hpp2⟩
    have d_hB'_b_6 := upNe hup2 dB6 hb_6.lt
    have d_hB'_b_8 := upNe hup2 dB8 hb_8.lt
    have d_hB'_b_16 := upNe hup2 d_hB_b_16 hb_16.lt
    have S := S.trans s15
    have hb_6 := hb_6.sub s15
    have hb_8 := hb_8.sub s15
    have hB := hB.sub s15
    have o := o.sub s15
    have hA' := hA'.sub s15
    have hb_16 := hb_16.sub s15
    obtain ⟨rfl, hx2, hA2', hf2', hT2', hm2'⟩ := hpp2.good ⟨hA2, _, hT2, by omega⟩ hT2 (by omega) (by omega) (by omega)
    refine RL.ev (.move rfl) rfl rfl ?_
    refine RL.ev (.extract rfl rfl) rfl rfl ?_
    refine RL.ev (.extract rfl rfl) rfl rfl ?_
    refine RL.ev (.extract rfl rfl) rfl rfl ?_
    refine RL.alloc ze28 rfl rfl (fun b_19 w_19 e_19 z_19 hb_19 s_19 => ?_)
    have ge_19 := S.le e_19
    have n_6__19 := hb_6.ne e_19
    have n_8__19 := hb_8.ne e_19
    have n_16__19 := hb_16.ne e_19
    have d_o_b_19 := o.neNew e_19
    have d_hA'_b_19 := hA'.neNew e_19
    have d_hB'_b_19 := hB'.neNew e_19
    have S := S.trans s_19
    have hb_6 := hb_6.sub s_19
    have hb_8 := hb_8.sub s_19
    have o := o.sub s_19
    have hA' := hA'.sub s_19
    have hb_16 := hb_16.sub s_19
    have hB' := hB'.sub s_19
    refine RL.store sh28 rfl rfl rfl hb_19 (by exact Nat.le_of_ble_eq_true rfl) (by rfl) rfl (fun w16 z16 hb_19 a16 => ?_)
    have S := S.upd a16 ge_19
    have hb_6 := hb_6.upd a16 n_6__19
    have hb_8 := hb_8.upd a16 n_8__19
    have o := o.updD a16 d_o_b_19
    have hA' := hA'.updD a16 d_hA'_b_19
    have hb_16 := hb_16.upd a16 n_16__19
    have hB' := hB'.updD a16 d_hB'_b_19
    have hb_19 : Has w16 b_19 ([.slice nb' B'.nodes.length ncb', .slice fb' B'.free.length fcb']) _ := hb_19.now (by kernel_rfl)
    refine RL.ev (.assign rfl) rfl rfl ?_
    refine RL.ev (.assign rfl) rfl rfl ?_
    refine RL.nil (RC.back ?_)
    refine RC.seq ?_
    refine RC.seq ?_
    refine RC.region rfl ?_
    refine RL.ev (.move rfl) rfl rfl ?_
    refine RL.ev (.as (v' := .bool false) (.bin rfl rfl rfl) (congrArg Value.bool (decide_eq_false (fun h => h rfl)))) rfl rfl ?_
    refine RL.ev (.move rfl) rfl rfl ?_
    refine RL.ev (.move rfl) rfl rfl ?_
    refine RL.ev (.as (v' := .bool false) (.bin rfl rfl rfl) (congrArg Value.bool (decide_eq_false (fun h => h rfl)))) rfl rfl ?_
    refine RL.ev (.pick_f rfl rfl) rfl rfl ?_
    refine RL.ev (.move rfl) rfl rfl ?_
    refine RL.off rfl rfl ?_
    refine RL.off rfl rfl ?_
    refine RL.off rfl rfl ?_
    refine RL.off rfl rfl ?_
    refine RL.ev (.pick_f rfl rfl) rfl rfl ?_
    refine RL.ev (.move rfl) rfl rfl ?_
    refine RL.off rfl rfl ?_
    refine RL.off rfl rfl ?_
    refine RL.off rfl rfl ?_
    refine RL.off rfl rfl ?_
    refine RL.ev (.pick_f rfl rfl) rfl rfl ?_
    refine RL.nil (RC.back ?_)
    refine RC.cond_f rfl ?_
    refine RC.skip (RC.back ?_)
    refine RC.seq ?_
    refine RC.seq ?_
    refine RC.region rfl ?_
    refine RL.ev (.move rfl) rfl rfl ?_
    refine RL.ev (.as (v' := .bool false) (.bin rfl rfl rfl) (congrArg Value.bool (decide_eq_false (fun h => h rfl)))) rfl rfl ?_
    refine RL.ev (.move rfl) rfl rfl ?_
    refine RL.ev (.move rfl) rfl rfl ?_
    refine RL.ev (.as (v' := .bool false) (.bin rfl rfl rfl) (congrArg Value.bool (decide_eq_false (fun h => h rfl)))) rfl rfl ?_
    refine RL.ev (.pick_f rfl rfl) rfl rfl ?_
    refine RL.nil (RC.back ?_)
    refine RC.cond_f rfl ?_
    refine RC.skip (RC.back ?_)
    refine RC.drawD (fun k => k = b_6 ∨ k = b_8) [8, 10] w16.heap.size 13 rfl rfl mxo (fun w17 s18 => ?_)
    have hNN : ∀ k, ((k = b_6 ∨ k = b_8) ∨ w16.heap.size ≤ k) → w.heap.size ≤ k := fun k e => e.elim (fun e => e.elim (fun e => e ▸ ge_6) (fun e => e ▸ ge_8)) (fun e => Nat.le_trans S.size e)
    have ent_S := S.size
    have hN0 : ∀ k, w16.heap.size ≤ k → w.heap.size ≤ k := fun k e => Nat.le_trans S.size e
    have ltD_b_6 := hb_6.lt
    have ltD_b_8 := hb_8.lt
    have ltD_o := fun k hk => (o.ge k hk).2
    have ltD_hA' := fun k hk => (hA'.ge k hk).2
    have ltD_b_16 := hb_16.lt
    have ltD_hB' := fun k hk => (hB'.ge k hk).2
    have ltD_b_19 := hb_19.lt
    have szD := Nat.le_refl w16.heap.size
    have S := S.trans s18
    have hb_6 := hb_6.sub s18
    have hb_8 := hb_8.sub s18
    have o := o.sub s18
    have hA' := hA'.sub s18
    have hb_16 := hb_16.sub s18
    have hB' := hB'.sub s18
    have hb_19 := hb_19.sub s18
    have szD := Nat.le_trans szD s18.size
    refine RD.take 0 rfl (by kernel_rfl) (by kernel_rfl) (by kernel_rfl) (fun w' s' => .loadR ([.slice na' A'.nodes.length nc', .slice fa' A'.free.length fc']) sh28 rfl (hb_16.step s' (fun e => e.elim (fun e => e.elim (fun e => n_6__16.symm e) (fun e => n_8__16.symm e)) (fun e => Nat.not_le.2 ltD_b_16 e))).row rfl) rfl rfl ?_
    refine RD.take 1 rfl (by kernel_rfl) (by kernel_rfl) (by kernel_rfl) (fun w' s' => .move rfl) rfl rfl ?_
    refine RD.take 2 rfl (by kernel_rfl) (by kernel_rfl) (by kernel_rfl) (fun w' s' => .loadR ([.slice nb' B'.nodes.length ncb', .slice fb' B'.free.length fcb']) sh28 rfl (hb_19.step s' (fun e => e.elim (fun e => e.elim (fun e => n_6__19.symm e) (fun e => n_8__19.symm e)) (fun e => Nat.not_le.2 ltD_b_19 e))).row rfl) rfl rfl ?_
    refine RD.take 3 rfl (by kernel_rfl) (by kernel_rfl) (by kernel_rfl) (fun w' s' => .move rfl) rfl rfl ?_
    refine RD.take 4 rfl (by kernel_rfl) (by kernel_rfl) (by kernel_rfl) (fun w' s' => .move rfl) rfl rfl ?_
    refine RD.take 5 rfl (by kernel_rfl) (by kernel_rfl) (by kernel_rfl) (fun w' s' => .move rfl) rfl rfl ?_
    refine RD.take 6 rfl (by kernel_rfl) (by kernel_rfl) (by kernel_rfl) (fun w' s' => .move rfl) rfl rfl ?_
    refine RD.all [7] (by kernel_rfl) rfl (RDs.cons rfl ?_ (RDs.nil))
    refine RL.call rfl ok13 (c_refPut (rowS (k50 l) i) ra rc _ (List.length_map _) (x % 50) (x % 50) w17 o.sl.1 (by omega)) rfl rfl ?_
    rintro vr w19 ⟨a1, c1, hvr, o1, s20⟩
    have d1_6 := owNew o1 hb_6.lt
    have d1_8 := owNew o1 hb_8.lt
    have o1 := o1.low S.size
    have S := S.trans s20
    have hb_6 := hb_6.sub s20
    have hb_8 := hb_8.sub s20
    have hA' := hA'.sub s20
    have hb_16 := hb_16.sub s20
    have hB' := hB'.sub s20
    have hb_19 := hb_19.sub s20
    have szD := Nat.le_trans szD s20.size
    rw [putR_putL (rowS_srt _ i), show putL (rowS (k50 l) i) (x % 50) (x % 50) = rowS (k50 l) (i + 1) from by rw [rowS, hkx]] at hvr o1 d1_6 d1_8
    subst hvr
    refine RD.back s20.agr ?_
    refine RD.all [8] (by kernel_rfl) rfl (RDs.cons rfl ?_ (RDs.nil))
    refine RL.store sh28 rfl rfl rfl hb_6 (by exact Nat.le_of_ble_eq_true rfl) (by rfl) rfl (fun w21 z21 hb_6 a21 => ?_)
    have S := S.upd a21 ge_6
    have hb_8 := hb_8.upd a21 n_6__8.symm
    have hA' := hA'.updD a21 d_hA'_b_6
    have hb_16 := hb_16.upd a21 n_6__16.symm
    have hB' := hB'.updD a21 d_hB'_b_6
    have hb_19 := hb_19.upd a21 n_6__19.symm
    have szD := Nat.le_trans szD a21.size
    have o1 := o1.updD a21 (fun k hk => d1_6 k hk)
    have hb_6 : Has w21 b_6 ([.slice na' A'.nodes.length nc', .slice fa' A'.free.length fc']) _ := hb_6.now (by kernel_rfl)
    refine RD.backW rfl (a21.mono fun k _ e => e ▸ (.inl (.inl rfl))) ?_
    refine RD.take 9 rfl (by kernel_rfl) (by kernel_rfl) (by kernel_rfl) (fun w' s' => .assign rfl) rfl rfl ?_
    refine RD.all [10] (by kernel_rfl) rfl (RDs.cons rfl ?_ (RDs.nil))
    refine RL.store sh28 rfl rfl rfl hb_8 (by exact Nat.le_of_ble_eq_true rfl) (by rfl) rfl (fun w22 z22 hb_8 a22 => ?_)
    have S := S.upd a22 ge_8
    have hb_6 := hb_6.upd a22 n_6__8
    have hA' := hA'.updD a22 d_hA'_b_8
    have hb_16 := hb_16.upd a22 n_8__16.symm
    have hB' := hB'.updD a22 d_hB'_b_8
    have hb_19 := hb_19.upd a22 n_8__19.symm
    have szD := Nat.le_trans szD a22.size
    have o1 := o1.updD a22 (fun k hk => d1_8 k hk)
    have hb_8 : Has w22 b_8 ([.slice nb' B'.nodes.length ncb', .slice fb' B'.free.length fcb']) _ := hb_8.now (by kernel_rfl)
    refine RD.backW rfl (a22.mono fun k _ e => e ▸ (.inl (.inr (rfl)))) ?_
    refine RD.take 11 rfl (by kernel_rfl) (by kernel_rfl) (by kernel_rfl) (fun w' s' => .assign rfl) rfl rfl ?_
    refine RD.take 12 rfl (by kernel_rfl) (by kernel_rfl) (by kernel_rfl) (fun w' s' => .assign rfl) rfl rfl ?_
    refine RD.done (by kernel_rfl) (RC.back ?_)
    refine RC.region rfl ?_
    refine RL.ev (.as (.bin rfl rfl rfl) (wi64 (y := ((i + 1 : Nat) : Int)) (by omega) (by omega))) rfl rfl ?_
    refine RL.ev (.move rfl) rfl rfl ?_
    exact RL.nil (fun a ka => ⟨(i + 1, (A', (na', fa', nc', fc'), r1', M1'), (B', (nb', fb', ncb', fcb'), r2', M2'), (a1, _, c1)), ⟨⟨by omega, ⟨hu1', hA1', by rw [rowS, hkx]; exact hT1', by show 512 ≤ A'.free.length + 9 * (i + 1); omega, hnc', hfc'⟩, ⟨hu2', hA2', by show IsT B' r2' (putL (rowS (rot50 l c n) i) (rot50 l c n i) (rot50 l c n i)); rw [hky]; exact hT2', by show 512 ≤ B'.free.length + 9 * (i + 1); omega, hncb', hfcb'⟩⟩, hb_6, hb_8, hA', hB', d_hA'_b_6, d_hA'_b_8, d_hB'_b_6, d_hB'_b_8, o1, d1_6, d1_8, S⟩, by omega, ka.keep (keep_of (by repeat (first | exact trivial | refine And.intro rfl ?_)))⟩)
  ·
    have hin : i = n := (by omega)
    have hoc : (rowS (k50 l) i).length ≤ rc := (by obtain ⟨_, c', e, h⟩ := o.form; cases e; rw [List.length_map] at h; exact h)
    have hrot : rowS (rot50 l c n) i = rowS (k50 l) i := (by subst hin; by_cases h : 0 < i; exact rot_row l c i h; (obtain rfl : i = 0 := (by omega)); rfl)
    rw [hrot] at hT2
    refine RC.exit rfl (RC.back ?_)
    refine RC.seq ?_
    refine RC.region rfl ?_
    refine RL.call rfl ok28 (c_alive6 w7) rfl rfl ?_
    rintro _ w23 ⟨rfl, s24⟩
    have S := S.trans s24
    have hb_6 := hb_6.sub s24
    have hb_8 := hb_8.sub s24
    have hA := hA.sub s24
    have hB := hB.sub s24
    have o := o.sub s24
    refine RL.ev (.move rfl) rfl rfl ?_
    refine RL.ev (.move rfl) rfl rfl ?_
    refine RL.ev (.as (v' := .bool true) (.bin rfl rfl rfl) (congrArg Value.bool (decide_eq_true (rfl)))) rfl rfl ?_
    refine RL.ev (.pick_t rfl rfl) rfl rfl ?_
    refine RL.ev (.move rfl) rfl rfl ?_
    refine RL.ev (.move rfl) rfl rfl ?_
    refine RL.ev (.as (v' := .bool true) (.bin rfl rfl rfl) (congrArg Value.bool (decide_eq_true (rfl)))) rfl rfl ?_
    refine RL.ev (.pick_t rfl rfl) rfl rfl ?_
    refine RL.ev (.move rfl) rfl rfl ?_
    refine RL.ev (.loadR ([.slice na A.nodes.length nc, .slice fa A.free.length fc]) sh28 rfl hb_6.row rfl) rfl rfl ?_
    refine RL.ev (.move rfl) rfl rfl ?_
    refine RL.ev (.move rfl) rfl rfl ?_
    refine RL.call rfl ok29 (c_isYes A na fa nc fc hA1 r1 (rowS (k50 l) i) ra rc _ (List.length_map _) hoc hu1 (by omega) hT1 w23 hA.now o.sl.1) rfl rfl ?_
    rintro _ w25 ⟨rfl, s26⟩
    have S := S.trans s26
    have hb_6 := hb_6.sub s26
    have hb_8 := hb_8.sub s26
    have hA := hA.sub s26
    have hB := hB.sub s26
    have o := o.sub s26
    refine RL.ev (.pick_t rfl rfl) rfl rfl ?_
    refine RL.ev (.move rfl) rfl rfl ?_
    refine RL.ev (.loadR ([.slice nb B.nodes.length ncb, .slice fb B.free.length fcb]) sh28 rfl hb_8.row rfl) rfl rfl ?_
    refine RL.ev (.move rfl) rfl rfl ?_
    refine RL.ev (.move rfl) rfl rfl ?_
    refine RL.call rfl ok29 (c_isYes B nb fb ncb fcb hA2 r2 (rowS (k50 l) i) ra rc _ (List.length_map _) hoc hu2 (by omega) hT2 w25 hB.now o.sl.1) rfl rfl ?_
    rintro _ w27 ⟨rfl, s28⟩
    have S := S.trans s28
    have hb_6 := hb_6.sub s28
    have hb_8 := hb_8.sub s28
    have hA := hA.sub s28
    have hB := hB.sub s28
    have o := o.sub s28
    refine RL.ev (.pick_t rfl rfl) rfl rfl ?_
    refine RL.ev (.assign rfl) rfl rfl ?_
    refine RL.nil (RC.back ?_)
    refine RC.done (rs := [.tmp 4]) (vs := [_]) rfl rfl ⟨rfl, trivial⟩ ?_
    -- end 1
    exact ⟨rfl, S⟩
end Go.Proofs.Ytekdjjppdijkmaa
