/-
  The package order, walked.
-/
import Derived.Test.YtdmaogopibljoaaOrderP
set_option linter.unusedVariables false
set_option linter.unusedSimpArgs false
namespace Go.Proofs.Ytdmaogopibljoaa
open Go Go.XL

theorem Ft.has {w : World} {b : Nat} {cs : List Value} {e : TypeId} (h : Has w b cs e) : Ft (· = b) (fun u => Has u b cs e) w := ⟨fun k e => e ▸ h.lt, fun u a => h.step a (fun hn => hn rfl)⟩
theorem Ft.and {M M' : Nat → Prop} {I J : World → Prop} {w : World} (h : Ft M I w) (k : Ft M' J w) : Ft (fun x => M x ∨ M' x) (fun u => I u ∧ J u) w :=
  ⟨fun x hx => hx.elim (h.lt x) (k.lt x), fun u a => ⟨h.imm u (a.mono fun x _ e hx => e (.inl hx)), k.imm u (a.mono fun x _ e hx => e (.inr hx))⟩⟩
/-- a function that is told where to go on, and keeps its word in blocks C -/
def Tells {σ : Type} (f : FuncId) (cs : List Value) (C : Nat → Prop) (I : σ → World → Prop) (step : σ → Node → Int → σ × Int) : Prop :=
  ∀ (s : σ) (x : Node) (left : Int) (w : World), x.ok → 0 ≤ left → left ≤ 1000 → Ft C (I s) w → FC Try.prog f ([x.val, .int .i64 left] ++ cs) w (fun v w' => v = .int .i64 (step s x left).2 ∧ Ft C (I (step s x left).1) w' ∧ Agr C w w')
theorem sizeA_rng {A : Ar} {r : Int} {l : List It} (h : IsT A r l) (hl : l.length ≤ 1000) : 0 ≤ sizeA A r ∧ sizeA A r ≤ 1000 := by rw [sizeA_isT h]; omega
theorem getV_s (A : Ar) (r : Int) : ∃ (y : Node) (e : Int), getV A r = .tuple #[y.val, .int .i64 e] ∧ y.s = sizeA A r ∧ (∀ x, getA A r = some x → y = x) := by
  unfold sizeA
  cases h : getA A r with
  | none => exact ⟨bareN 0, 4, getV_no h, rfl, fun x h => (by cases h)⟩
  | some x => exact ⟨x, 0, getV_yes h, rfl, fun y h => (by cases h; rfl)⟩
set_option maxHeartbeats 2000000 in
theorem c_down {σ : Type} (f : FuncId) (hf : calleeOK Try.prog f = true) (cs : List Value) (C : Nat → Prop) (I : σ → World → Prop) (step : σ → Node → Int → σ × Int) (hT : Tells f cs C I step)
    (A : Ar) (na fa : Option Addr) (nc fc : Nat) (r : Int) (hr : U64 r) (s0 : σ) (M : Nat → Prop) (w : World) (hA : Ft M (fun u => ArR u na fa A) w) (hMC : ∀ k, M k → ¬ C k) (hS : Ft C (I s0) w) :
    FC Try.prog 31 [arV na fa nc fc A, .int .u64 r, .func (.func f) #[] cs.toArray] w (fun v w' => Agr C w w' ∧ (¬ isMap A r ∧ v = .int .i64 1 ∧ Ft C (I s0) w' ∨ isMap A r ∧ v = .int .i64 0 ∧ Ft C (I (downF A step 201 r s0)) w')) := by
  have hCw : ∀ k, C k → k < w.heap.size := hS.lt
  have hnok := hA.now.nok
  refine FC.intro Try.func31 rfl Try.ntmps31 rfl ?_
  have G : Agr C w w := Agr.refl _ _
  refine RC.seq ?_
  refine RC.region rfl ?_
  refine RL.box rfl rfl rfl (fun b_3 w_3 e_3 z_3 hb_3 s_3 => ?_)
  have d_hA_b_3 := hA.neNew e_3
  have d_hS_b_3 := hS.neNew e_3
  have geG_3 := agLe G e_3
  have G := G.trans s_3.agr
  have hA := hA.sub s_3
  have hS := hS.sub s_3
  have hb_3 : Has w_3 b_3 ([.slice na A.nodes.length nc, .slice fa A.free.length fc]) _ := hb_3
  refine RL.ev (.assign rfl) rfl rfl ?_
  refine RL.nil (RC.back ?_)
  refine RC.seq ?_
  refine RC.seq ?_
  refine RC.region rfl ?_
  refine RL.ev (.loadR ([.slice na A.nodes.length nc, .slice fa A.free.length fc]) sh28 rfl hb_3.row rfl) rfl rfl ?_
  refine RL.ev (.move rfl) rfl rfl ?_
  refine RL.call rfl ok19 (c_tRight A na fa nc fc r hr w_3 hA.now) rfl rfl ?_
  rintro _ w1 ⟨rfl, s2⟩
  have G := G.trans s2.agr
  have hA := hA.sub s2
  have hS := hS.sub s2
  have hb_3 := hb_3.sub s2
  refine RL.ev (.not rfl) rfl rfl ?_
  refine RL.nil (RC.back ?_)
  refine RC.cond rfl (fun h3 => ?_) (fun h3 => ?_)
  ·
    have hno : ¬ isMap A r := (fun h => by have h2 := h3; rw [isMapB_yes h] at h2; cases h2)
    refine RC.seq ?_
    refine RC.region rfl ?_
    refine RL.ev (.assign rfl) rfl rfl ?_
    refine RL.nil (RC.back ?_)
    refine RC.done (rs := [.tmp 6]) (vs := [_]) rfl rfl ⟨rfl, trivial⟩ ?_
    -- end 1
    exact ⟨G, .inl ⟨hno, rfl, hS⟩⟩
  ·
    have hmb : isMapB A r = true := (by simpa using h3)
    have hmap : isMap A r := (isMapB_iff A r).1 (by simpa using h3)
    obtain ⟨_, l0, hl0, hll0⟩ := hmap
    have geb := geG_3
    have hC3 : ¬ C b_3 := fun e => by have := hCw _ e; omega
    refine RC.skip (RC.back ?_)
    refine RC.seq ?_
    refine RC.block ?_
    refine RC.loop (α := Nat × Int × σ) (fun x => [(1, .int .u64 x.2.1), (2, .func (.func f) #[] cs.toArray), (3, .pointer (some ⟨b_3, 0, none⟩))]) (fun x w4 => (U64 x.2.1 ∧ (∃ l, IsT A x.2.1 l ∧ l.length < x.1 ∧ l.length ≤ 200) ∧ downF A step 201 r s0 = downF A step x.1 x.2.1 x.2.2) ∧ Has w4 b_3 [.slice na A.nodes.length nc, .slice fa A.free.length fc] 28 ∧ Ft M (fun u => ArR u na fa A) w4 ∧ Ft C (I x.2.2) w4 ∧ Agr C w w4) (fun x => x.1) (201, r, s0) (keep_of (by repeat (first | exact trivial | refine And.intro rfl ?_))) (⟨⟨hr, ⟨l0, hl0, Nat.lt_succ_of_le hll0, hll0⟩, rfl⟩, hb_3, hA, hS, G⟩) (fun x w4 hJ => ?_)
    obtain ⟨k, q, s⟩ := x; obtain ⟨⟨hq, ⟨l, hl, hlk, hl2⟩, hd⟩, hb_3, hA, hS, G⟩ := hJ; simp only [] at hq hl hlk hd hS
    refine RC.seq ?_
    refine RC.seq ?_
    refine RC.region rfl ?_
    refine RL.ev (.move rfl) rfl rfl ?_
    refine RL.ev (.bin rfl rfl rfl) rfl rfl ?_
    refine RL.nil (RC.back ?_)
    refine RC.cond_dec rfl (fun h5 => ?_) (fun h5 => ?_)
    ·
      obtain ⟨g, a, b, it, L, R, el, e1, e2, e3, _, _⟩ := hl.ne h5
      have hll : l.length = L.length + (R.length + 1) := (by rw [el]; simp)
      obtain ⟨x, hgx, hxa, hxb⟩ : ∃ x, getA A q = some x ∧ IsT A x.k0 L ∧ IsT A x.k1 R := ⟨_, e1, e2, e3⟩
      clear e1 e2 e3 el
      have hxo := hnok x (getA_nok hgx)
      have hsr := sizeA_rng hxa (by omega)
      obtain ⟨y2, f2, hgv2, hys, hyg⟩ := getV_s A x.k0
      obtain ⟨k, rfl⟩ : ∃ m, k = m + 1 := ⟨k - 1, by omega⟩
      refine RC.skip (RC.back ?_)
      refine RC.block ?_
      refine RC.seq ?_
      refine RC.region rfl ?_
      refine RL.ev (.loadR ([.slice na A.nodes.length nc, .slice fa A.free.length fc]) sh28 rfl hb_3.row rfl) rfl rfl ?_
      refine RL.ev (.move rfl) rfl rfl ?_
      refine RL.call rfl ok34 (c_aGet A na fa nc fc q hq w4 hA.now) rfl rfl ?_
      rintro _ w6 ⟨rfl, s7⟩
      have G := G.trans s7.agr
      have hb_3 := hb_3.sub s7
      have hA := hA.sub s7
      have hS := hS.sub s7
      refine RL.ev (.as (v' := .tuple #[x.val, .int .i64 0]) (.move rfl) (by rw [getV_yes hgx])) rfl rfl ?_
      refine RL.ev (.extract rfl rfl) rfl rfl ?_
      refine RL.ev (.extract rfl rfl) rfl rfl ?_
      refine RL.alloc ze69 rfl rfl (fun b_7 w_7 e_7 z_7 hb_7 s_7 => ?_)
      have n_3__7 := hb_3.ne e_7
      have d_hA_b_7 := hA.neNew e_7
      have d_hS_b_7 := hS.neNew e_7
      have geG_7 := agLe G e_7
      have G := G.trans s_7.agr
      have hb_3 := hb_3.sub s_7
      have hA := hA.sub s_7
      have hS := hS.sub s_7
      refine RL.store sh69 rfl rfl rfl hb_7 (by exact Nat.le_of_ble_eq_true rfl) (by rfl) rfl (fun w8 z8 hb_7 a8 => ?_)
      have G := agNew G a8 geG_7
      have hb_3 := hb_3.upd a8 n_3__7
      have hA := hA.updD a8 d_hA_b_7
      have hS := hS.updD a8 d_hS_b_7
      have hb_7 : Has w8 b_7 (x.cells) _ := hb_7.now (by kernel_rfl)
      refine RL.ev (.assign rfl) rfl rfl ?_
      refine RL.nil (RC.back ?_)
      refine RC.seq ?_
      refine RC.region rfl ?_
      refine RL.ev (.loadR ([.slice na A.nodes.length nc, .slice fa A.free.length fc]) sh28 rfl hb_3.row rfl) rfl rfl ?_
      refine RL.ev (.field0 fo69_5 rfl) rfl rfl ?_
      refine RL.ev (.indexArr ar67 rfl rfl (by omega)) rfl rfl ?_
      refine RL.ev (.load1 sh30 rfl (hb_7.cell rfl)) rfl rfl ?_
      refine RL.call rfl ok34 (c_aGet A na fa nc fc x.k0 (hxo.kids _ (by simp [Node.kids])) w8 hA.now) rfl rfl ?_
      rintro _ w9 ⟨rfl, s10⟩
      have G := G.trans s10.agr
      have hb_3 := hb_3.sub s10
      have hA := hA.sub s10
      have hS := hS.sub s10
      have hb_7 := hb_7.sub s10
      refine RL.ev (.as (v' := .tuple #[y2.val, .int .i64 f2]) (.move rfl) (by rw [hgv2])) rfl rfl ?_
      refine RL.ev (.extract rfl rfl) rfl rfl ?_
      refine RL.ev (.extract rfl rfl) rfl rfl ?_
      refine RL.alloc ze69 rfl rfl (fun b_9 w_9 e_9 z_9 hb_9 s_9 => ?_)
      have n_3__9 := hb_3.ne e_9
      have n_7__9 := hb_7.ne e_9
      have d_hA_b_9 := hA.neNew e_9
      have d_hS_b_9 := hS.neNew e_9
      have geG_9 := agLe G e_9
      have G := G.trans s_9.agr
      have hb_3 := hb_3.sub s_9
      have hA := hA.sub s_9
      have hS := hS.sub s_9
      have hb_7 := hb_7.sub s_9
      refine RL.store sh69 rfl rfl rfl hb_9 (by exact Nat.le_of_ble_eq_true rfl) (by rfl) rfl (fun w11 z11 hb_9 a11 => ?_)
      have G := agNew G a11 geG_9
      have hb_3 := hb_3.upd a11 n_3__9
      have hA := hA.updD a11 d_hA_b_9
      have hS := hS.updD a11 d_hS_b_9
      have hb_7 := hb_7.upd a11 n_7__9
      have hb_9 : Has w11 b_9 (y2.cells) _ := hb_9.now (by kernel_rfl)
      refine RL.ev (.assign rfl) rfl rfl ?_
      refine RL.nil (RC.back ?_)
      refine RC.seq ?_
      refine RC.region rfl ?_
      refine RL.ev (.move rfl) rfl rfl ?_
      refine RL.ev (.loadR (x.cells) sh69 rfl hb_7.row rfl) rfl rfl ?_
      refine RL.ev (.field0 fo69_4 rfl) rfl rfl ?_
      refine RL.ev (.as (v' := .int .i64 (sizeA A x.k0)) (.load1 sh2 rfl (hb_9.cell rfl)) (by rw [hys])) rfl rfl ?_
      refine RL.callv rfl rfl (us := []) (cs := cs) hf (hT s x (sizeA A x.k0) w11 hxo hsr.1 hsr.2 hS) rfl rfl ?_
      rintro _ w12 ⟨rfl, hS2, ag⟩
      have hG7 := geG_7
      have hG9 := geG_9
      have G := G.trans ag
      have hA := hA.step ag hMC
      have hb_3 := hb_3.step ag hC3
      have hb_7 := hb_7.step ag (fun e => by have := hCw _ e; omega)
      have hb_9 := hb_9.step ag (fun e => by have := hCw _ e; omega)
      have hS := hS2
      refine RL.ev (.assign rfl) rfl rfl ?_
      refine RL.nil (RC.back ?_)
      refine RC.seq ?_
      refine RC.seq ?_
      refine RC.region rfl ?_
      refine RL.ev (.move rfl) rfl rfl ?_
      refine RL.ev (.bin rfl rfl rfl) rfl rfl ?_
      refine RL.ev (.move rfl) rfl rfl ?_
      refine RL.split 39 rfl (fun h14 => ?_) (fun h14 => ?_)
      ·
        have hn0 := h14
        refine RL.ev (.move rfl) rfl rfl ?_
        refine RL.ev (.bin rfl rfl rfl) rfl rfl ?_
        refine RL.ev (.pick_t rfl rfl) rfl rfl ?_
        refine RL.nil (RC.back ?_)
        refine RC.cond_dec rfl (fun h15 => ?_) (fun h15 => ?_)
        ·
          have hn1 := h15
          refine RC.exit rfl (RC.back ?_)
          refine RC.seq ?_
          refine RC.region rfl ?_
          refine RL.ev (.assign rfl) rfl rfl ?_
          refine RL.nil (RC.back ?_)
          refine RC.done (rs := [.tmp 6]) (vs := [_]) rfl rfl ⟨rfl, trivial⟩ ?_
          -- end 2
          rw [hd, downF_stop hgx ⟨hn0, hn1⟩]
          exact ⟨G, .inr ⟨(isMapB_iff A r).1 hmb, rfl, hS⟩⟩
        ·
          have hs1 : (step s x (sizeA A x.k0)).2 = 1 := Decidable.not_not.1 h15
          refine RC.skip (RC.back ?_)
          refine RC.region rfl ?_
          refine RL.ev (.as (v' := .int .i64 1) (.move rfl) (by rw [hs1])) rfl rfl ?_
          refine RL.ev (.field0 fo69_5 rfl) rfl rfl ?_
          refine RL.ev (.indexArr ar67 rfl rfl (by omega)) rfl rfl ?_
          refine RL.ev (.load1 sh30 rfl (hb_7.cell rfl)) rfl rfl ?_
          refine RL.ev (.assign rfl) rfl rfl ?_
          exact RL.nil (fun a ka => ⟨(k, x.k1, (step s x (sizeA A x.k0)).1), ⟨⟨hxo.kids _ (by simp [Node.kids]), ⟨R, hxb, by omega, by omega⟩, by rw [hd, downF_r hgx hs1]⟩, hb_3, hA, hS, G⟩, by omega, ka.keep (keep_of (by repeat (first | exact trivial | refine And.intro rfl ?_)))⟩)
      ·
        have hs0 : (step s x (sizeA A x.k0)).2 = 0 := Decidable.not_not.1 h14
        refine RL.off rfl rfl ?_
        refine RL.off rfl rfl ?_
        refine RL.ev (.pick_f rfl rfl) rfl rfl ?_
        refine RL.nil (RC.back ?_)
        refine RC.cond_f rfl ?_
        refine RC.skip (RC.back ?_)
        refine RC.region rfl ?_
        refine RL.ev (.as (v' := .int .i64 0) (.move rfl) (by rw [hs0])) rfl rfl ?_
        refine RL.ev (.field0 fo69_5 rfl) rfl rfl ?_
        refine RL.ev (.indexArr ar67 rfl rfl (by omega)) rfl rfl ?_
        refine RL.ev (.load1 sh30 rfl (hb_7.cell rfl)) rfl rfl ?_
        refine RL.ev (.assign rfl) rfl rfl ?_
        exact RL.nil (fun a ka => ⟨(k, x.k0, (step s x (sizeA A x.k0)).1), ⟨⟨hxo.kids _ (by simp [Node.kids]), ⟨L, hxa, by omega, by omega⟩, by rw [hd, downF_l hgx hs0]⟩, hb_3, hA, hS, G⟩, by omega, ka.keep (keep_of (by repeat (first | exact trivial | refine And.intro rfl ?_)))⟩)
    ·
      obtain rfl : q = 0 := Decidable.not_not.1 h5
      rw [downF_none (getA_0 A)] at hd
      refine RC.exit rfl (RC.back ?_)
      refine RC.seq ?_
      refine RC.region rfl ?_
      refine RL.ev (.assign rfl) rfl rfl ?_
      refine RL.nil (RC.back ?_)
      refine RC.done (rs := [.tmp 6]) (vs := [_]) rfl rfl ⟨rfl, trivial⟩ ?_
      -- end 3
      rw [hd]
      exact ⟨G, .inr ⟨(isMapB_iff A r).1 hmb, rfl, hS⟩⟩
theorem isMap_len {A : Ar} {r : Int} {l : List It} (h : isMap A r) (hl : IsT A r l) : l.length ≤ 200 := by
  obtain ⟨_, m, h1, h2⟩ := h
  rw [hl.unique h1]; exact h2
theorem down_form {σ : Type} {C : Nat → Prop} {I : σ → World → Prop} {step : σ → Node → Int → σ × Int} {A : Ar} {r : Int} {s0 : σ} {v : Value} {w' : World} (h : ¬ isMap A r ∧ v = .int .i64 1 ∧ Ft C (I s0) w' ∨ isMap A r ∧ v = .int .i64 0 ∧ Ft C (I (downF A step 201 r s0)) w') :
    ∃ s e, v = .int .i64 e ∧ Ft C (I s) w' ∧ (¬ isMap A r ∧ e = 1 ∧ s = s0 ∨ isMap A r ∧ e = 0 ∧ s = downF A step 201 r s0) := by
  rcases h with ⟨h1, h2, h3⟩ | ⟨h1, h2, h3⟩
  · exact ⟨s0, 1, h2, h3, .inl ⟨h1, rfl, rfl⟩⟩
  · exact ⟨_, 0, h2, h3, .inr ⟨h1, rfl, rfl⟩⟩
/-! ### how many keys -/
def ISize (b2 : Nat) (s : Int) (u : World) : Prop := Has u b2 [.int .i64 s] 3
/-! ### what is found -/
theorem c_found (x : It) (is : Bool) (bad : Int) (w : World) : FC Try.prog 33 [x.val, .bool is, .int .i64 bad] w (Val (.tuple #[x.val, .int .i64 (if bad = 0 ∧ is = false then 3 else bad)]) w) := by
  refine FC.intro Try.func33 rfl Try.ntmps33 rfl ?_
  have S := Sub.refl w
  refine RC.seq ?_
  refine RC.region rfl ?_
  refine RL.box rfl rfl rfl (fun b_3 w_3 e_3 z_3 hb_3 s_3 => ?_)
  have ge_3 := S.le e_3
  have S := S.trans s_3
  have hb_3 : Has w_3 b_3 (x.cells) _ := hb_3
  refine RL.alloc ze42 rfl rfl (fun b_6 w_6 e_6 z_6 hb_6 s_6 => ?_)
  have ge_6 := S.le e_6
  have n_3__6 := hb_3.ne e_6
  have S := S.trans s_6
  have hb_3 := hb_3.sub s_6
  refine RL.ev (.assign rfl) rfl rfl ?_
  refine RL.nil (RC.back ?_)
  refine RC.seq ?_
  refine RC.seq ?_
  refine RC.region rfl ?_
  refine RL.ev (.move rfl) rfl rfl ?_
  refine RL.ev (.bin rfl rfl rfl) rfl rfl ?_
  refine RL.ev (.move rfl) rfl rfl ?_
  refine RL.split 10 rfl (fun h1 => ?_) (fun h1 => ?_)
  ·
    have h0 := h1
    refine RL.ev (.move rfl) rfl rfl ?_
    refine RL.ev (.not rfl) rfl rfl ?_
    refine RL.ev (.pick_t rfl rfl) rfl rfl ?_
    refine RL.nil (RC.back ?_)
    refine RC.cond rfl (fun h2 => ?_) (fun h2 => ?_)
    ·
      have h1 := h2
      refine RC.region rfl ?_
      refine RL.ev (.assign rfl) rfl rfl ?_
      refine RL.nil (RC.back ?_)
      refine RC.seq ?_
      refine RC.region rfl ?_
      refine RL.ev (.loadR (x.cells) sh42 rfl hb_3.row rfl) rfl rfl ?_
      refine RL.ev (.move rfl) rfl rfl ?_
      refine RL.store sh42 rfl rfl rfl hb_6 (by exact Nat.le_of_ble_eq_true rfl) (by rfl) rfl (fun w3 z3 hb_6 a3 => ?_)
      have S := S.upd a3 ge_6
      have hb_3 := hb_3.upd a3 n_3__6
      have hb_6 : Has w3 b_6 (x.cells) _ := hb_6.now (by kernel_rfl)
      refine RL.ev (.assign rfl) rfl rfl ?_
      refine RL.nil (RC.back ?_)
      refine RC.done (rs := [.cell 6 42, .tmp 7]) (vs := [_, _]) rfl rfl ⟨⟨_, rfl, .inr ⟨x.cells, sh42, hb_6.row, rfl⟩⟩, rfl, trivial⟩ ?_
      -- end 1
      rw [if_pos ⟨h0, by simpa using h1⟩]
      exact ⟨rfl, S⟩
    ·
      have h1 := h2
      refine RC.skip (RC.back ?_)
      refine RC.seq ?_
      refine RC.region rfl ?_
      refine RL.ev (.loadR (x.cells) sh42 rfl hb_3.row rfl) rfl rfl ?_
      refine RL.ev (.move rfl) rfl rfl ?_
      refine RL.store sh42 rfl rfl rfl hb_6 (by exact Nat.le_of_ble_eq_true rfl) (by rfl) rfl (fun w4 z4 hb_6 a4 => ?_)
      have S := S.upd a4 ge_6
      have hb_3 := hb_3.upd a4 n_3__6
      have hb_6 : Has w4 b_6 (x.cells) _ := hb_6.now (by kernel_rfl)
      refine RL.ev (.assign rfl) rfl rfl ?_
      refine RL.nil (RC.back ?_)
      refine RC.done (rs := [.cell 6 42, .tmp 7]) (vs := [_, _]) rfl rfl ⟨⟨_, rfl, .inr ⟨x.cells, sh42, hb_6.row, rfl⟩⟩, rfl, trivial⟩ ?_
      -- end 2
      rw [if_neg (fun e => by rw [e.2] at h1; cases h1)]
      exact ⟨rfl, S⟩
  ·
    have h0 := h1
    refine RL.off rfl rfl ?_
    refine RL.off rfl rfl ?_
    refine RL.ev (.pick_f rfl rfl) rfl rfl ?_
    refine RL.nil (RC.back ?_)
    refine RC.cond_f rfl ?_
    refine RC.skip (RC.back ?_)
    refine RC.seq ?_
    refine RC.region rfl ?_
    refine RL.ev (.loadR (x.cells) sh42 rfl hb_3.row rfl) rfl rfl ?_
    refine RL.ev (.move rfl) rfl rfl ?_
    refine RL.store sh42 rfl rfl rfl hb_6 (by exact Nat.le_of_ble_eq_true rfl) (by rfl) rfl (fun w5 z5 hb_6 a5 => ?_)
    have S := S.upd a5 ge_6
    have hb_3 := hb_3.upd a5 n_3__6
    have hb_6 : Has w5 b_6 (x.cells) _ := hb_6.now (by kernel_rfl)
    refine RL.ev (.assign rfl) rfl rfl ?_
    refine RL.nil (RC.back ?_)
    refine RC.done (rs := [.cell 6 42, .tmp 7]) (vs := [_, _]) rfl rfl ⟨⟨_, rfl, .inr ⟨x.cells, sh42, hb_6.row, rfl⟩⟩, rfl, trivial⟩ ?_
    -- end 3
    rw [if_neg (fun e => h0 e.1)]
    exact ⟨rfl, S⟩
/-! ### the one of a place -/
def IAt (b10 b8 b9 : Nat) (s : AtS) (u : World) : Prop := Has u b10 [.int .i64 s.k] 2 ∧ (Has u b8 s.x.cells 42 ∧ Has u b9 [.bool s.is] 4)
theorem at_end {l : List It} {p : Int} {x : It} {is : Bool} (h : (x, is) = atL l ⟨p, it0, false⟩) : (0 ≤ p ∧ p < l.length → l[p.toNat]? = some x ∧ (if (0 : Int) = 0 ∧ is = false then (3 : Int) else 0) = 0) ∧ (¬ (0 ≤ p ∧ p < l.length) → x = it0 ∧ (if (0 : Int) = 0 ∧ is = false then (3 : Int) else 0) = 3) := by
  unfold atL at h
  by_cases q : 0 ≤ p ∧ p < l.length
  · rw [if_pos q] at h
    obtain ⟨h1, h2⟩ := Prod.mk.inj h
    refine ⟨fun _ => ⟨?_, by rw [h2]; rfl⟩, fun e => absurd q e⟩
    obtain ⟨y, hy⟩ := getSome (l := l) (i := p.toNat) (by omega)
    rw [h1, List.getD_eq_getElem?_getD, hy]; rfl
  · rw [if_neg q] at h
    obtain ⟨h1, h2⟩ := Prod.mk.inj h
    exact ⟨fun e => absurd e q, fun _ => ⟨h1, by rw [h2]; rfl⟩⟩
/-! ### the place of a key -/
def IRank (key : Int) (b5 b8 : Nat) (s : Int) (u : World) : Prop := Has u b5 [.int .i64 key] 2 ∧ Has u b8 [.int .i64 s] 2
/-! ### the ones around a key -/
def IFl (key : Int) (b5 b8 b9 : Nat) (s : It × Bool) (u : World) : Prop := Has u b5 [.int .i64 key] 2 ∧ (Has u b8 s.1.cells 42 ∧ Has u b9 [.bool s.2] 4)
theorem t_ceil (key : Int) (b5 b8 b9 : Nat) (n1 : b5 ≠ b8) (n2 : b5 ≠ b9) (n3 : b8 ≠ b9) : Tells 32 [.pointer (some ⟨b5, 0, none⟩), .pointer (some ⟨b8, 0, none⟩), .pointer (some ⟨b9, 0, none⟩)] (fun k => k = b5 ∨ (k = b8 ∨ k = b9)) (IFl key b5 b8 b9) (stCeil key) := by
  intro s x left w hx h0 h1 hS
  have hs : IFl key b5 b8 b9 s w := hS.now
  obtain ⟨ha, hb, hc⟩ := hs
  refine FC.intro Try.func32 rfl Try.ntmps32 rfl ?_
  have G : Agr (fun k => k = b5 ∨ (k = b8 ∨ k = b9)) w w := Agr.refl _ _
  refine RC.seq ?_
  refine RC.region rfl ?_
  refine RL.box rfl rfl rfl (fun b_5 w_5 e_5 z_5 hb_5 s_5 => ?_)
  have n5__5 := ha.ne e_5
  have n8__5 := hb.ne e_5
  have n9__5 := hc.ne e_5
  have geG_5 := agLe G e_5
  have G := G.trans s_5.agr
  have ha := ha.sub s_5
  have hb := hb.sub s_5
  have hc := hc.sub s_5
  have hb_5 : Has w_5 b_5 (x.cells) _ := hb_5
  refine RL.ev (.assign rfl) rfl rfl ?_
  refine RL.nil (RC.back ?_)
  refine RC.seq ?_
  refine RC.seq ?_
  refine RC.region rfl ?_
  refine RL.ev (.field0 fo69_2 rfl) rfl rfl ?_
  refine RL.ev (.load1 sh2 rfl (hb_5.cell rfl)) rfl rfl ?_
  refine RL.ev (.load1 sh2 rfl (ha.cell rfl)) rfl rfl ?_
  refine RL.ev (.bin rfl rfl rfl) rfl rfl ?_
  refine RL.nil (RC.back ?_)
  refine RC.cond_dec rfl (fun h1 => ?_) (fun h1 => ?_)
  ·
    have q1 := h1
    refine RC.seq ?_
    refine RC.region rfl ?_
    refine RL.ev (.assign rfl) rfl rfl ?_
    refine RL.nil (RC.back ?_)
    refine RC.done (rs := [.tmp 7]) (vs := [_]) rfl rfl ⟨rfl, trivial⟩ ?_
    -- end 1
    rw [show stCeil key s x left = (s, 1) from if_pos q1]
    exact ⟨rfl, Ft.and (Ft.has ha) (Ft.and (Ft.has hb) (Ft.has hc)), G⟩
  ·
    have q1 := h1
    refine RC.skip (RC.back ?_)
    refine RC.seq ?_
    refine RC.region rfl ?_
    refine RL.ev (.field0 fo69_2 rfl) rfl rfl ?_
    refine RL.ev (.load1 sh2 rfl (hb_5.cell rfl)) rfl rfl ?_
    refine RL.ev (.field0 fo69_3 rfl) rfl rfl ?_
    refine RL.ev (.load1 sh2 rfl (hb_5.cell rfl)) rfl rfl ?_
    refine RL.ev (.buildS ze42 pl42 rfl rfl) rfl rfl ?_
    refine RL.store sh42 rfl rfl rfl hb (by exact Nat.le_of_ble_eq_true rfl) (by rfl) rfl (fun w2 z2 hb a2 => ?_)
    have G := G.trans (a2.mono fun k _ e => .inr (.inl e))
    have ha := ha.upd a2 n1
    have hc := hc.upd a2 n3.symm
    have hb_5 := hb_5.upd a2 n8__5.symm
    refine RL.store sh4 rfl rfl rfl hc (by exact Nat.le_of_ble_eq_true rfl) (by rfl) rfl (fun w3 z3 hc a3 => ?_)
    have G := G.trans (a3.mono fun k _ e => .inr (.inr (e)))
    have ha := ha.upd a3 n2
    have hb := hb.upd a3 n3
    have hb_5 := hb_5.upd a3 n9__5.symm
    refine RL.nil (RC.back ?_)
    refine RC.seq ?_
    refine RC.region rfl ?_
    refine RL.ev (.assign rfl) rfl rfl ?_
    refine RL.nil (RC.back ?_)
    refine RC.done (rs := [.tmp 7]) (vs := [_]) rfl rfl ⟨rfl, trivial⟩ ?_
    -- end 2
    rw [show stCeil key s x left = ((⟨x.n, x.v⟩, true), 0) from if_neg q1]
    exact ⟨rfl, Ft.and (Ft.has ha) (Ft.and (Ft.has hb) (Ft.has hc)), G⟩
/-- what is found, or none -/
def foundE (s : It × Bool) : Int := if s.2 = false then 3 else 0
theorem c_oCeil (A : Ar) (na fa : Option Addr) (nc fc : Nat) (r : Int) (hr : U64 r) (key : Int) (w : World) (hA : ArR w na fa A) :
    FC Try.prog 21 [arV na fa nc fc A, .int .u64 r, .int .i64 key] w (fun v w' => Sub w w' ∧ ∃ x e, v = .tuple #[x.val, .int .i64 e] ∧ (¬ isMap A r → x = it0 ∧ e = 1) ∧ ∀ l, isMap A r → IsT A r l → x = (ceilL key l (it0, false)).1 ∧ e = foundE (ceilL key l (it0, false))) := by
  refine FC.intro Try.func21 rfl Try.ntmps21 rfl ?_
  have S := Sub.refl w
  refine RC.seq ?_
  refine RC.region rfl ?_
  refine RL.box rfl rfl rfl (fun b_3 w_3 e_3 z_3 hb_3 s_3 => ?_)
  have ge_3 := S.le e_3
  have S := S.trans s_3
  have hb_3 : Has w_3 b_3 ([.slice na A.nodes.length nc, .slice fa A.free.length fc]) _ := hb_3
  refine RL.box rfl rfl rfl (fun b_5 w_5 e_5 z_5 hb_5 s_5 => ?_)
  have ge_5 := S.le e_5
  have n_3__5 := hb_3.ne e_5
  have S := S.trans s_5
  have hb_3 := hb_3.sub s_5
  refine RL.alloc ze42 rfl rfl (fun b_6 w_6 e_6 z_6 hb_6 s_6 => ?_)
  have ge_6 := S.le e_6
  have n_3__6 := hb_3.ne e_6
  have n_5__6 := hb_5.ne e_6
  have S := S.trans s_6
  have hb_3 := hb_3.sub s_6
  have hb_5 := hb_5.sub s_6
  refine RL.ev (.assign rfl) rfl rfl ?_
  refine RL.nil (RC.back ?_)
  refine RC.seq ?_
  refine RC.region rfl ?_
  refine RL.alloc ze42 rfl rfl (fun b_8 w_8 e_8 z_8 hb_8 s_8 => ?_)
  have ge_8 := S.le e_8
  have n_3__8 := hb_3.ne e_8
  have n_5__8 := hb_5.ne e_8
  have n_6__8 := hb_6.ne e_8
  have S := S.trans s_8
  have hb_3 := hb_3.sub s_8
  have hb_5 := hb_5.sub s_8
  have hb_6 := hb_6.sub s_8
  refine RL.nil (RC.back ?_)
  refine RC.seq ?_
  refine RC.region rfl ?_
  refine RL.alloc ze4 rfl rfl (fun b_9 w_9 e_9 z_9 hb_9 s_9 => ?_)
  have ge_9 := S.le e_9
  have n_3__9 := hb_3.ne e_9
  have n_5__9 := hb_5.ne e_9
  have n_6__9 := hb_6.ne e_9
  have n_8__9 := hb_8.ne e_9
  have S := S.trans s_9
  have hb_3 := hb_3.sub s_9
  have hb_5 := hb_5.sub s_9
  have hb_6 := hb_6.sub s_9
  have hb_8 := hb_8.sub s_9
  refine RL.store sh4 rfl rfl rfl hb_9 (by exact Nat.le_of_ble_eq_true rfl) (by rfl) rfl (fun w1 z1 hb_9 a1 => ?_)
  have S := S.upd a1 ge_9
  have hb_3 := hb_3.upd a1 n_3__9
  have hb_5 := hb_5.upd a1 n_5__9
  have hb_6 := hb_6.upd a1 n_6__9
  have hb_8 := hb_8.upd a1 n_8__9
  refine RL.nil (RC.back ?_)
  refine RC.seq ?_
  refine RC.region rfl ?_
  refine RL.ev (.loadR ([.slice na A.nodes.length nc, .slice fa A.free.length fc]) sh28 rfl hb_3.row rfl) rfl rfl ?_
  refine RL.ev (.move rfl) rfl rfl ?_
  refine RL.ev (.func (xs := []) (ys := [_, _, _]) rfl rfl) rfl rfl ?_
  refine RL.call rfl ok31 (c_down 32 ok32 _ _ _ _ (t_ceil key b_5 b_8 b_9 n_5__8 n_5__9 n_8__9) A na fa nc fc r hr ((it0, false) : It × Bool) (· < w.heap.size) w1 ((Ft.of_sub fun u s => hA.sub s).sub S) (fun k hk e => by rcases e with e | e | e <;> omega) (Ft.and (Ft.has hb_5) (Ft.and (Ft.has hb_8) (Ft.has hb_9)))) rfl rfl ?_
  rintro _ w2 ⟨ag, hr2⟩
  obtain ⟨s, e, rfl, hS, hse⟩ := down_form hr2
  have S := S.agrN ag (fun k e => e.elim (fun e => e ▸ ge_5) (fun e => e.elim (fun e => e ▸ ge_8) (fun e => e ▸ ge_9)))
  have hb_3 := hb_3.step ag (fun e => e.elim (fun e => n_3__5 e) (fun e => e.elim (fun e => n_3__8 e) (fun e => n_3__9 e)))
  have hb_6 := hb_6.step ag (fun e => e.elim (fun e => n_5__6.symm e) (fun e => e.elim (fun e => n_6__8 e) (fun e => n_6__9 e)))
  obtain ⟨hb_5, hb_8, hb_9⟩ : IFl key b_5 b_8 b_9 s w2 := hS.now
  refine RL.ev (.assign rfl) rfl rfl ?_
  refine RL.nil (RC.back ?_)
  refine RC.seq ?_
  refine RC.region rfl ?_
  refine RL.ev (.loadR (s.1.cells) sh42 rfl hb_8.row rfl) rfl rfl ?_
  refine RL.ev (.load1 sh4 rfl (hb_9.cell rfl)) rfl rfl ?_
  refine RL.ev (.move rfl) rfl rfl ?_
  refine RL.call rfl ok33 (c_found s.1 s.2 e w2) rfl rfl ?_
  rintro _ w4 ⟨rfl, s5⟩
  have S := S.trans s5
  have hb_3 := hb_3.sub s5
  have hb_6 := hb_6.sub s5
  have hb_5 := hb_5.sub s5
  have hb_8 := hb_8.sub s5
  have hb_9 := hb_9.sub s5
  refine RL.ev (.extract rfl rfl) rfl rfl ?_
  refine RL.ev (.extract rfl rfl) rfl rfl ?_
  refine RL.store sh42 rfl rfl rfl hb_6 (by exact Nat.le_of_ble_eq_true rfl) (by rfl) rfl (fun w6 z6 hb_6 a6 => ?_)
  have S := S.upd a6 ge_6
  have hb_3 := hb_3.upd a6 n_3__6
  have hb_5 := hb_5.upd a6 n_5__6
  have hb_8 := hb_8.upd a6 n_6__8.symm
  have hb_9 := hb_9.upd a6 n_6__9.symm
  have hb_6 : Has w6 b_6 (s.1.cells) _ := hb_6.now (by kernel_rfl)
  refine RL.ev (.assign rfl) rfl rfl ?_
  refine RL.nil (RC.back ?_)
  refine RC.done (rs := [.cell 6 42, .tmp 7]) (vs := [_, _]) rfl rfl ⟨⟨_, rfl, .inr ⟨s.1.cells, sh42, hb_6.row, rfl⟩⟩, rfl, trivial⟩ ?_
  -- end 1
  refine ⟨S, s.1, _, rfl, fun h => ?_, fun l hm hl => ?_⟩
  · rcases hse with ⟨_, h2, h3⟩ | ⟨h2, _⟩
    · rw [h2, h3]; exact ⟨rfl, rfl⟩
    · exact absurd h2 h
  · rcases hse with ⟨h2, _⟩ | ⟨_, h2, h3⟩
    · exact absurd hm h2
    · have h4 := isMap_len hm hl
      have h5 := down_ceil key hl 201 (it0, false) (by omega)
      rw [← h3] at h5
      rw [h2, ← h5]
      exact ⟨rfl, by simp [foundE]⟩
end Go.Proofs.Ytdmaogopibljoaa
