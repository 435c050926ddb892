/-
  What the law HamtCrowds leans on, part 4.
-/
import Derived.Test.YtbfjobmebkhblaaPHamtCrowds3
set_option linter.unusedVariables false
set_option linter.unusedSimpArgs false
namespace Go.Proofs.Ytbfjobmebkhblaa
open Go Go.XL
theorem take_hasH {l : List Int} {i : Nat} {x p : Int} (hx : l[i]? = some x) (h : ¬ p ∈ l.take i) (hp : ¬ x = p) : ¬ p ∈ l.take (i + 1) := by
  rw [List.take_add_one, hx]
  intro hin
  rcases List.mem_append.1 hin with h' | h'
  · exact h h'
  · have : p = x := by simpa using h'
    exact hp this.symm
theorem c_hasH (l : List Int) (a : Option Addr) (c m : Nat) (hm : m = l.length) (p : Int) (w : World) (hl : Sl w a 1 (l.map fun x => [i6 x])) (hb : l.length ≤ 1000000) :
    FC Try.prog 76 [.slice a m c, .int .i64 p] w (Val (.bool (decide (p ∈ l))) w) := by
  subst hm
  refine FC.intro Try.func76 rfl Try.ntmps76 rfl ?_
  have S := Sub.refl w
  refine RC.seq ?_
  refine RC.region rfl ?_
  refine RL.ev (.assign rfl) rfl rfl ?_
  refine RL.nil (RC.back ?_)
  refine RC.seq ?_
  refine RC.seq ?_
  refine RC.region rfl ?_
  refine RL.ev (.move rfl) rfl rfl ?_
  refine RL.ev (.len sl32 rfl) rfl rfl ?_
  refine RL.ev (.move rfl) rfl rfl ?_
  refine RL.nil (RC.back ?_)
  refine RC.block ?_
  refine RC.loop (α := Nat) (fun i => [(1, .int .i64 p), (7, .slice a l.length c), (8, .int .i64 (l.length : Int)), (9, .int .i64 (i : Int))]) (fun i w1 => i ≤ l.length ∧ (¬ p ∈ l.take i) ∧ Sub w w1) (fun i => l.length - i) 0 (keep_of (by repeat (first | exact trivial | refine And.intro rfl ?_))) (⟨Nat.zero_le _, by simp, S⟩) (fun i w1 hJ => ?_)
  obtain ⟨hi, hp, S⟩ := hJ
  refine RC.seq ?_
  refine RC.region rfl ?_
  refine RL.ev (.bin rfl rfl rfl) rfl rfl ?_
  refine RL.nil (RC.back ?_)
  refine RC.seq ?_
  refine RC.cond_dec rfl (fun h2 => ?_) (fun h2 => ?_)
  ·
    obtain ⟨x, hx⟩ := getSome (l := l) (i := i) (by omega)
    refine RC.skip (RC.back ?_)
    refine RC.seq ?_
    refine RC.block ?_
    refine RC.seq ?_
    refine RC.region rfl ?_
    refine RL.ev (.indexS sl32 rfl rfl (by omega) (hl.is (i := 0) (by simp only [List.length_map, List.length_cons, List.length_nil]; omega))) rfl rfl ?_
    refine RL.ev (.load1 sh3 rfl ((hl.sub S).one (enc := i6) (i := i) hx)) rfl rfl ?_
    refine RL.ev (.assign rfl) rfl rfl ?_
    refine RL.nil (RC.back ?_)
    refine RC.seq ?_
    refine RC.region rfl ?_
    refine RL.ev (.move rfl) rfl rfl ?_
    refine RL.ev (.move rfl) rfl rfl ?_
    refine RL.ev (.bin rfl rfl rfl) rfl rfl ?_
    refine RL.nil (RC.back ?_)
    refine RC.cond_dec rfl (fun h3 => ?_) (fun h3 => ?_)
    ·
      have hxp : x = p := h3
      refine RC.seq ?_
      refine RC.region rfl ?_
      refine RL.ev (.assign rfl) rfl rfl ?_
      refine RL.nil (RC.back ?_)
      refine RC.done (rs := [.tmp 4]) (vs := [_]) rfl rfl ⟨rfl, trivial⟩ ?_
      -- end 1
      exact ⟨congrArg Value.bool (decide_eq_true (hxp ▸ List.mem_of_getElem? hx)).symm, S⟩
    ·
      have hxp : ¬ x = p := h3
      refine RC.skip (RC.back ?_)
      refine RC.region rfl ?_
      refine RL.ev (.as (.bin rfl rfl rfl) (wi64 (y := ((i + 1 : Nat) : Int)) (by omega) (by omega))) rfl rfl ?_
      refine RL.ev (.move rfl) rfl rfl ?_
      exact RL.nil (fun a ka => ⟨i + 1, ⟨by omega, take_hasH hx hp hxp, S⟩, by omega, ka.keep (keep_of (by repeat (first | exact trivial | refine And.intro rfl ?_)))⟩)
  ·
    obtain rfl : i = l.length := (by omega)
    rw [List.take_length] at hp
    refine RC.exit rfl (RC.back ?_)
    refine RC.seq ?_
    refine RC.region rfl ?_
    refine RL.ev (.assign rfl) rfl rfl ?_
    refine RL.nil (RC.back ?_)
    refine RC.done (rs := [.tmp 4]) (vs := [_]) rfl rfl ⟨rfl, trivial⟩ ?_
    -- end 2
    exact ⟨congrArg Value.bool (decide_eq_false hp).symm, S⟩
/-- what is kept while a table is read -/
structure RhOk (N : Nat) (t : Rh) : Prop where
  nd : t.1.Nodup
  rng : ∀ p ∈ t.1, 0 ≤ p ∧ p < N
  row : t.2.1.length ≤ t.1.length
theorem RhOk.len {N : Nat} {t : Rh} (h : RhOk N t) : t.1.length ≤ N := pigeon N t.1 h.nd h.rng
theorem RhOk.off {N : Nat} {t : Rh} (h : RhOk N t) : RhOk N (t.1, t.2.1, false) := ⟨h.nd, h.rng, h.row⟩
theorem RhOk.add {N : Nat} {t : Rh} (h : RhOk N t) {p : Int} (hp : 0 ≤ p ∧ p < N) (hn : ¬ p ∈ t.1) (b : Bool) : RhOk N (t.1 ++ [p], t.2.1, b) := by
  refine ⟨List.nodup_append.2 ⟨h.nd, by simp, fun a ha c hc e => ?_⟩, fun q hq => ?_, ?_⟩
  · rw [List.mem_singleton.1 hc] at e; exact hn (e ▸ ha)
  · rcases List.mem_append.1 hq with hq | hq
    · exact h.rng q hq
    · rw [List.mem_singleton.1 hq]; exact hp
  · have := h.row; rw [List.length_append]; simp only [List.length_singleton]; omega
theorem readH_inv {A : Ar} : ∀ (k : Nat) (t : Rh) (r : Int), RhOk A.nodes.length t → RhOk A.nodes.length (readH A k t r) ∧ t.1.length ≤ (readH A k t r).1.length
  | 0, t, r, h => ⟨h, Nat.le_refl _⟩
  | k + 1, t, r, h => by
    by_cases h0 : r = 0 ∨ t.2.2 = false
    · rw [readH_stop h0]; exact ⟨h, Nat.le_refl _⟩
    · cases hg : getA A r with
      | none => rw [readH_none h0 hg]; exact ⟨h.off, Nat.le_refl _⟩
      | some y =>
        by_cases hm : placeR r ∈ t.1
        · rw [readH_met h0 hg hm]; exact ⟨h.off, Nat.le_refl _⟩
        · have hr := getA_rng hg
          by_cases h3 : y.kind = 3
          · rw [readH_leaf h0 hg hm h3]
            have ha := h.add hr hm true
            refine ⟨⟨ha.nd, ha.rng, ?_⟩, by simp⟩
            have := h.row
            simp only [List.length_append, List.length_singleton]; omega
          · by_cases h4 : ¬ y.kind = 2 ∧ ¬ y.kind = 4
            · rw [readH_odd h0 hg hm h3 h4]; exact ⟨h.add hr hm false, by simp⟩
            · rw [readH_go h0 hg hm h3 h4]
              have fold : ∀ (l : List Int) (u : Rh), RhOk A.nodes.length u → RhOk A.nodes.length (l.foldl (readH A k) u) ∧ u.1.length ≤ (l.foldl (readH A k) u).1.length := by
                intro l
                induction l with
                | nil => intro u hu; exact ⟨hu, Nat.le_refl _⟩
                | cons z l ih =>
                  intro u hu
                  have h1 := readH_inv k u z hu
                  have h2 := ih _ h1.1
                  rw [List.foldl_cons]
                  exact ⟨h2.1, Nat.le_trans h1.2 h2.2⟩
              have hf := fold y.kids _ (h.add hr hm true)
              refine ⟨hf.1, Nat.le_trans ?_ hf.2⟩
              simp
def sC (t : Rh) (ma : Option Addr) (mc : Nat) (va : Option Addr) (vc : Nat) : List Value := [.slice ma (t.1.map fun x => [i6 x]).length mc, .slice va (t.2.1.map It.cells).length vc, .bool t.2.2]
/-- how the reference's rows stand; what else is kept -/
structure RhS (w0 : World) (E : Nat) (K : Nat → Prop) (I : World → Prop) (t : Rh) (ma : Option Addr) (mc : Nat) (va : Option Addr) (vc : Nat) (w : World) : Prop where
  S : Sub w0 w
  sz : E ≤ w.heap.size
  om : Ows E w 3 1 (.slice ma (t.1.map fun x => [i6 x]).length mc) (t.1.map fun x => [i6 x])
  ov : Ows E w 29 2 (.slice va (t.2.1.map It.cells).length vc) (t.2.1.map It.cells)
  d : ∀ k, ob (.slice ma (t.1.map fun x => [i6 x]).length mc) = some k → ob (.slice va (t.2.1.map It.cells).length vc) = some k → False
  hI : Ft K I w
  dm : ∀ k, ob (.slice ma (t.1.map fun x => [i6 x]).length mc) = some k → K k → False
  dv : ∀ k, ob (.slice va (t.2.1.map It.cells).length vc) = some k → K k → False
theorem rhFold {A : Ar} {k : Nat} {l : List Int} {j : Nat} {z : Int} {t0 t1 t3 : Rh} (hz : l[j]? = some z) (h1 : (l.take j).foldl (readH A k) t0 = t1) (h3 : readH A k t1 z = t3) : (l.take (j + 1)).foldl (readH A k) t0 = t3 := by
  rw [List.take_add_one, hz, List.foldl_append, h1]; exact h3
theorem rhAll {A : Ar} {k : Nat} {y : Node} {t0 : Rh} : (y.kids.take 9).foldl (readH A k) t0 = y.kids.foldl (readH A k) t0 := by
  rw [List.take_of_length_le (Nat.le_refl 9 : y.kids.length ≤ 9)]
abbrev RhI (K : Nat → Prop) (I : World → Prop) (A : Ar) (na fa : Option Addr) (nc fc : Nat) (b3 b4 b6 : Nat) (t : Rh) (ma : Option Addr) (mc : Nat) (va : Option Addr) (vc : Nat) : World → Prop :=
  fun u => Ft K I u ∧ Has u b3 [.slice na A.nodes.length nc, .slice fa A.free.length fc] 34 ∧ Has u b4 (sC t ma mc va vc) 90 ∧ Has u b6 [.slice none 0 0, .slice none 0 0, .bool false] 90
/-- the rounds over the kids -/
structure RhL (w0 : World) (E : Nat) (K : Nat → Prop) (I : World → Prop) (A : Ar) (k : Nat) (l : List Int) (t0 : Rh) (b3 b4 b6 : Nat) (na fa : Option Addr) (nc fc : Nat) (j : Nat) (ma : Option Addr) (mc : Nat) (va : Option Addr) (vc : Nat) (w : World) : Prop where
  is : ∃ t, (l.take j).foldl (readH A k) t0 = t ∧ RhOk A.nodes.length t ∧ t0.1.length ≤ t.1.length ∧ RhS w0 E (fun k => K k ∨ k = b3 ∨ k = b4 ∨ k = b6) (RhI K I A na fa nc fc b3 b4 b6 t ma mc va vc) t ma mc va vc w
set_option maxHeartbeats 4000000 in
theorem c_ReadH (A : Ar) (na fa : Option Addr) (nc fc : Nat) (hn : A.nodes.length ≤ 1000000) (w0 : World) (hA : ArR w0 na fa A) (E : Nat) (gE : w0.heap.size ≤ E) : ∀ (k : Nat) (met : List Int) (v : List It) (ok : Bool) (ma : Option Addr) (mc : Nat) (va : Option Addr) (vc : Nat) (r : Int) (K : Nat → Prop) (I : World → Prop) (w : World), U64 r → A.nodes.length + 1 ≤ met.length + k → RhOk A.nodes.length (met, v, ok) → RhS w0 E K I (met, v, ok) ma mc va vc w →
    FC Try.prog 52 [arV na fa nc fc A, .agg (sC (met, v, ok) ma mc va vc).toArray, .int .u64 r] w (fun u w' => ∃ ma' mc' va' vc', u = .agg (sC (readH A k (met, v, ok) r) ma' mc' va' vc').toArray ∧ RhS w0 E K I (readH A k (met, v, ok) r) ma' mc' va' vc' w') := by
  intro k
  induction k with
  | zero => intro met v ok ma mc va vc r K I w _ h1 h2; have := h2.len; simp only [] at this; omega
  | succ k ih =>
  intro met v ok ma mc va vc r K I w hr hk hok hs
  obtain ⟨S, szB, om, ov, dmv, hI, dm, dv⟩ := hs
  simp only [] at om ov dmv dm dv
  have hf := atA_form A r
  have hNd := hA.nodes
  have hFr := hA.free
  have hml := hok.len
  have hvl := hok.row
  simp only [] at hml hvl
  refine FC.intro Try.func52 rfl Try.ntmps52 rfl ?_
  refine RC.seq ?_
  refine RC.region rfl ?_
  refine RL.box rfl rfl rfl (fun b_3 w_3 e_3 z_3 hb_3 s_3 => ?_)
  have ge_3 := S.le e_3
  have d_om_b_3 := om.neNew e_3
  have d_ov_b_3 := ov.neNew e_3
  have d_hI_b_3 := hI.neNew e_3
  have S := S.trans s_3
  have om := om.sub s_3
  have ov := ov.sub s_3
  have hI := hI.sub s_3
  have szB := Nat.le_trans szB s_3.size
  have hb_3 : Has w_3 b_3 ([.slice na A.nodes.length nc, .slice fa A.free.length fc]) _ := hb_3
  refine RL.box rfl rfl rfl (fun b_4 w_4 e_4 z_4 hb_4 s_4 => ?_)
  have ge_4 := S.le e_4
  have n_3__4 := hb_3.ne e_4
  have d_om_b_4 := om.neNew e_4
  have d_ov_b_4 := ov.neNew e_4
  have d_hI_b_4 := hI.neNew e_4
  have S := S.trans s_4
  have om := om.sub s_4
  have ov := ov.sub s_4
  have hI := hI.sub s_4
  have szB := Nat.le_trans szB s_4.size
  have hb_3 := hb_3.sub s_4
  have hb_4 : Has w_4 b_4 (sC (met, v, ok) ma mc va vc) _ := hb_4
  refine RL.alloc ze90 rfl rfl (fun b_6 w_6 e_6 z_6 hb_6 s_6 => ?_)
  have ge_6 := S.le e_6
  have n_3__6 := hb_3.ne e_6
  have n_4__6 := hb_4.ne e_6
  have d_om_b_6 := om.neNew e_6
  have d_ov_b_6 := ov.neNew e_6
  have d_hI_b_6 := hI.neNew e_6
  have S := S.trans s_6
  have om := om.sub s_6
  have ov := ov.sub s_6
  have hI := hI.sub s_6
  have szB := Nat.le_trans szB s_6.size
  have hb_3 := hb_3.sub s_6
  have hb_4 := hb_4.sub s_6
  refine RL.nil (RC.back ?_)
  refine RC.seq ?_
  refine RC.seq ?_
  refine RC.region rfl ?_
  refine RL.ev (.move rfl) rfl rfl ?_
  refine RL.ev (.bin rfl rfl rfl) rfl rfl ?_
  refine RL.ev (.move rfl) rfl rfl ?_
  refine RL.split 13 rfl (fun h1 => ?_) (fun h1 => ?_)
  ·
    have hres : readH A (k + 1) (met, v, ok) r = (met, v, ok) := readH_stop (.inl h1)
    refine RL.off rfl rfl ?_
    refine RL.off rfl rfl ?_
    refine RL.off rfl rfl ?_
    refine RL.ev (.pick_t rfl rfl) rfl rfl ?_
    refine RL.nil (RC.back ?_)
    refine RC.cond_t rfl ?_
    refine RC.seq ?_
    refine RC.region rfl ?_
    refine RL.ev (.loadR (sC (met, v, ok) ma mc va vc) sh90 rfl hb_4.row rfl) rfl rfl ?_
    refine RL.store sh90 rfl rfl rfl hb_6 (by exact Nat.le_of_ble_eq_true rfl) (by rfl) rfl (fun w2 z2 hb_6 a2 => ?_)
    have S := S.upd a2 ge_6
    have om := om.updD a2 d_om_b_6
    have ov := ov.updD a2 d_ov_b_6
    have hI := hI.updD a2 d_hI_b_6
    have szB := Nat.le_trans szB a2.size
    have hb_3 := hb_3.upd a2 n_3__6
    have hb_4 := hb_4.upd a2 n_4__6
    have hb_6 : Has w2 b_6 (sC (met, v, ok) ma mc va vc) _ := hb_6.now (by kernel_rfl)
    refine RL.nil (RC.back ?_)
    refine RC.done (rs := [.cell 6 90]) (vs := [_]) rfl rfl ⟨⟨_, rfl, .inr ⟨sC (met, v, ok) ma mc va vc, sh90, hb_6.row, rfl⟩⟩, trivial⟩ ?_
    -- end 1
    rw [hres]
    exact ⟨ma, mc, va, vc, rfl, ⟨S, szB, om, ov, dmv, hI, dm, dv⟩⟩
  ·
    have hr0 := h1
    refine RL.ev (.field0 fo90_2 rfl) rfl rfl ?_
    refine RL.ev (.load1 sh4 rfl (hb_4.cell rfl)) rfl rfl ?_
    refine RL.ev (.not rfl) rfl rfl ?_
    refine RL.ev (.pick_f rfl rfl) rfl rfl ?_
    refine RL.nil (RC.back ?_)
    refine RC.cond rfl (fun h3 => ?_) (fun h3 => ?_)
    ·
      have hres : readH A (k + 1) (met, v, ok) r = (met, v, ok) := readH_stop (.inr (by simpa using h3))
      refine RC.seq ?_
      refine RC.region rfl ?_
      refine RL.ev (.loadR (sC (met, v, ok) ma mc va vc) sh90 rfl hb_4.row rfl) rfl rfl ?_
      refine RL.store sh90 rfl rfl rfl hb_6 (by exact Nat.le_of_ble_eq_true rfl) (by rfl) rfl (fun w4 z4 hb_6 a4 => ?_)
      have S := S.upd a4 ge_6
      have om := om.updD a4 d_om_b_6
      have ov := ov.updD a4 d_ov_b_6
      have hI := hI.updD a4 d_hI_b_6
      have szB := Nat.le_trans szB a4.size
      have hb_3 := hb_3.upd a4 n_3__6
      have hb_4 := hb_4.upd a4 n_4__6
      have hb_6 : Has w4 b_6 (sC (met, v, ok) ma mc va vc) _ := hb_6.now (by kernel_rfl)
      refine RL.nil (RC.back ?_)
      refine RC.done (rs := [.cell 6 90]) (vs := [_]) rfl rfl ⟨⟨_, rfl, .inr ⟨sC (met, v, ok) ma mc va vc, sh90, hb_6.row, rfl⟩⟩, trivial⟩ ?_
      -- end 2
      rw [hres]
      exact ⟨ma, mc, va, vc, rfl, ⟨S, szB, om, ov, dmv, hI, dm, dv⟩⟩
    ·
      obtain rfl : ok = true := (by simpa using h3)
      have h0 : ¬ (r = 0 ∨ ((met, v, true) : Rh).2.2 = false) := (fun e => e.elim hr0 (fun e => by cases e))
      refine RC.skip (RC.back ?_)
      refine RC.seq ?_
      refine RC.region rfl ?_
      refine RL.ev (.loadR ([.slice na A.nodes.length nc, .slice fa A.free.length fc]) sh34 rfl hb_3.row rfl) rfl rfl ?_
      refine RL.ev (.move rfl) rfl rfl ?_
      refine RL.call rfl ok61 (c_r4At A na fa nc fc r hr w_6 (hA.sub S) (by omega)) rfl rfl ?_
      rintro _ w5 ⟨rfl, s6⟩
      have S := S.trans s6
      have om := om.sub s6
      have ov := ov.sub s6
      have hI := hI.sub s6
      have szB := Nat.le_trans szB s6.size
      have hb_3 := hb_3.sub s6
      have hb_4 := hb_4.sub s6
      have hb_6 := hb_6.sub s6
      refine RL.ev (.assign rfl) rfl rfl ?_
      refine RL.nil (RC.back ?_)
      refine RC.seq ?_
      refine RC.seq ?_
      refine RC.region rfl ?_
      refine RL.ev (.move rfl) rfl rfl ?_
      refine RL.ev (.bin rfl rfl rfl) rfl rfl ?_
      refine RL.ev (.move rfl) rfl rfl ?_
      refine RL.split 24 rfl (fun h7 => ?_) (fun h7 => ?_)
      ·
        have hres : readH A (k + 1) (met, v, true) r = (met, v, false) := readH_none h0 (hf.1 h7)
        refine RL.off rfl rfl ?_
        refine RL.off rfl rfl ?_
        refine RL.off rfl rfl ?_
        refine RL.off rfl rfl ?_
        refine RL.ev (.pick_t rfl rfl) rfl rfl ?_
        refine RL.nil (RC.back ?_)
        refine RC.cond_t rfl ?_
        refine RC.seq ?_
        refine RC.region rfl ?_
        refine RL.ev (.field0 fo90_2 rfl) rfl rfl ?_
        refine RL.store sh4 rfl rfl rfl hb_4 (by exact Nat.le_of_ble_eq_true rfl) (by rfl) rfl (fun w8 z8 hb_4 a8 => ?_)
        have S := S.upd a8 ge_4
        have om := om.updD a8 d_om_b_4
        have ov := ov.updD a8 d_ov_b_4
        have hI := hI.updD a8 d_hI_b_4
        have szB := Nat.le_trans szB a8.size
        have hb_3 := hb_3.upd a8 n_3__4
        have hb_6 := hb_6.upd a8 n_4__6.symm
        have hb_4 : Has w8 b_4 (sC (met, v, false) ma mc va vc) _ := hb_4
        refine RL.nil (RC.back ?_)
        refine RC.seq ?_
        refine RC.region rfl ?_
        refine RL.ev (.loadR (sC (met, v, false) ma mc va vc) sh90 rfl hb_4.row rfl) rfl rfl ?_
        refine RL.store sh90 rfl rfl rfl hb_6 (by exact Nat.le_of_ble_eq_true rfl) (by rfl) rfl (fun w9 z9 hb_6 a9 => ?_)
        have S := S.upd a9 ge_6
        have om := om.updD a9 d_om_b_6
        have ov := ov.updD a9 d_ov_b_6
        have hI := hI.updD a9 d_hI_b_6
        have szB := Nat.le_trans szB a9.size
        have hb_3 := hb_3.upd a9 n_3__6
        have hb_4 := hb_4.upd a9 n_4__6
        have hb_6 : Has w9 b_6 (sC (met, v, false) ma mc va vc) _ := hb_6.now (by kernel_rfl)
        refine RL.nil (RC.back ?_)
        refine RC.done (rs := [.cell 6 90]) (vs := [_]) rfl rfl ⟨⟨_, rfl, .inr ⟨sC (met, v, false) ma mc va vc, sh90, hb_6.row, rfl⟩⟩, trivial⟩ ?_
        -- end 3
        rw [hres]
        exact ⟨ma, mc, va, vc, rfl, ⟨S, szB, om, ov, dmv, hI, dm, dv⟩⟩
      ·
        obtain ⟨y, hy, hay⟩ := hf.2 h7
        have hrg := getA_rng hy
        refine RL.ev (.field0 fo90_0 rfl) rfl rfl ?_
        refine RL.ev (.load1 sh32 rfl (hb_4.cell rfl)) rfl rfl ?_
        refine RL.ev (.move rfl) rfl rfl ?_
        refine RL.call rfl ok76 (c_hasH met ma mc _ (List.length_map _) (atA A r) w5 om.sl.1 (by omega)) rfl rfl ?_
        rintro _ w10 ⟨rfl, s11⟩
        have S := S.trans s11
        have om := om.sub s11
        have ov := ov.sub s11
        have hI := hI.sub s11
        have szB := Nat.le_trans szB s11.size
        have hb_3 := hb_3.sub s11
        have hb_4 := hb_4.sub s11
        have hb_6 := hb_6.sub s11
        refine RL.ev (.pick_f rfl rfl) rfl rfl ?_
        refine RL.nil (RC.back ?_)
        refine RC.cond_dec rfl (fun h12 => ?_) (fun h12 => ?_)
        ·
          have hres : readH A (k + 1) (met, v, true) r = (met, v, false) := readH_met h0 hy (hay ▸ h12)
          refine RC.seq ?_
          refine RC.region rfl ?_
          refine RL.ev (.field0 fo90_2 rfl) rfl rfl ?_
          refine RL.store sh4 rfl rfl rfl hb_4 (by exact Nat.le_of_ble_eq_true rfl) (by rfl) rfl (fun w13 z13 hb_4 a13 => ?_)
          have S := S.upd a13 ge_4
          have om := om.updD a13 d_om_b_4
          have ov := ov.updD a13 d_ov_b_4
          have hI := hI.updD a13 d_hI_b_4
          have szB := Nat.le_trans szB a13.size
          have hb_3 := hb_3.upd a13 n_3__4
          have hb_6 := hb_6.upd a13 n_4__6.symm
          have hb_4 : Has w13 b_4 (sC (met, v, false) ma mc va vc) _ := hb_4
          refine RL.nil (RC.back ?_)
          refine RC.seq ?_
          refine RC.region rfl ?_
          refine RL.ev (.loadR (sC (met, v, false) ma mc va vc) sh90 rfl hb_4.row rfl) rfl rfl ?_
          refine RL.store sh90 rfl rfl rfl hb_6 (by exact Nat.le_of_ble_eq_true rfl) (by rfl) rfl (fun w14 z14 hb_6 a14 => ?_)
          have S := S.upd a14 ge_6
          have om := om.updD a14 d_om_b_6
          have ov := ov.updD a14 d_ov_b_6
          have hI := hI.updD a14 d_hI_b_6
          have szB := Nat.le_trans szB a14.size
          have hb_3 := hb_3.upd a14 n_3__6
          have hb_4 := hb_4.upd a14 n_4__6
          have hb_6 : Has w14 b_6 (sC (met, v, false) ma mc va vc) _ := hb_6.now (by kernel_rfl)
          refine RL.nil (RC.back ?_)
          refine RC.done (rs := [.cell 6 90]) (vs := [_]) rfl rfl ⟨⟨_, rfl, .inr ⟨sC (met, v, false) ma mc va vc, sh90, hb_6.row, rfl⟩⟩, trivial⟩ ?_
          -- end 4
          rw [hres]
          exact ⟨ma, mc, va, vc, rfl, ⟨S, szB, om, ov, dmv, hI, dm, dv⟩⟩
        ·
          have hnm : ¬ placeR r ∈ met := hay ▸ h12
          have hyo := hA.nok y (getA_nok hy)
          refine RC.skip (RC.back ?_)
          refine RC.seq ?_
          refine RC.region rfl ?_
          refine RL.ev (.field0 fo90_0 rfl) rfl rfl ?_
          refine RL.ev (.load1 sh32 rfl (hb_4.cell rfl)) rfl rfl ?_
          refine RL.ev (.as (v' := .int .i64 (placeR r)) (.move rfl) (by rw [hay])) rfl rfl ?_
          refine RL.buildSlice1 sl32 _ ze3 rfl rfl rfl rfl rfl rfl rfl (fun b_35 w_35 e_35 z_35 hb_35 s_35 => ?_)
          have ge_35 := S.le e_35
          have n_3__35 := hb_3.ne e_35
          have n_4__35 := hb_4.ne e_35
          have n_6__35 := hb_6.ne e_35
          have d_om_b_35 := om.neNew e_35
          have d_ov_b_35 := ov.neNew e_35
          have d_hI_b_35 := hI.neNew e_35
          have S := S.trans s_35
          have om := om.sub s_35
          have ov := ov.sub s_35
          have hI := hI.sub s_35
          have szB := Nat.le_trans szB s_35.size
          have hb_3 := hb_3.sub s_35
          have hb_4 := hb_4.sub s_35
          have hb_6 := hb_6.sub s_35
          have sz_36 := S.size
          have ltb_3_36 := hb_3.lt
          have ltb_4_36 := hb_4.lt
          have ltb_6_36 := hb_6.lt
          have ltb_35_36 := hb_35.lt
          refine RL.append2 (base := E) (rows := met.map fun x => [i6 x]) (news := [_]) sl32 ze3 rfl rfl rfl rfl (.inl om) (Has.slOne hb_35) rfl (by intro r hr; rw [List.mem_singleton] at hr; subst hr; rfl) rfl (by (try simp only [List.length_map, List.length_nil, List.length_append, List.length_cons]); omega) (by (try simp only [List.length_map, List.length_nil, List.length_append, List.length_cons]); omega) (by omega) rfl rfl (fun v_36 w_36 hc_36 ho_36 ag_36 ob_36 => ?_)
          have om36 := ho_36 (.inl (by simp))
          rw [show _ ++ [_] = ((met ++ [placeR r]).map fun x => [i6 x]) from by rw [List.map_append]; rfl] at om36
          have dd_om36_ov := obDD ob_36 dmv (fun k hk => (ov.ge k hk).2)
          have dd_om36_hI := obDF ob_36 dm (fun k hk => (hI.ge k hk).2)
          have d_om36_b_3 := obNe ob_36 d_om_b_3 hb_3.lt
          have d_om36_b_4 := obNe ob_36 d_om_b_4 hb_4.lt
          have d_om36_b_6 := obNe ob_36 d_om_b_6 hb_6.lt
          have S := S.agrN ag_36 (fun k e => Nat.le_trans (by omega) e.2)
          have ov := ov.step ag_36 (fun k hk e => dmv k e.1 hk)
          have hI := hI.step ag_36 (fun k hk e => dm k e.1 hk)
          have szB := Nat.le_trans szB ag_36.size
          have hb_3 := hb_3.step ag_36 (fun e => d_om_b_3 _ e.1 rfl)
          have hb_4 := hb_4.step ag_36 (fun e => d_om_b_4 _ e.1 rfl)
          have hb_6 := hb_6.step ag_36 (fun e => d_om_b_6 _ e.1 rfl)
          obtain ⟨a_36, c_36, rfl, k_36⟩ := om36.form
          refine RL.ev (.field0 fo90_0 rfl) rfl rfl ?_
          refine RL.store sh32 rfl rfl rfl hb_4 (by exact Nat.le_of_ble_eq_true rfl) (by rfl) rfl (fun w15 z15 hb_4 a15 => ?_)
          have S := S.upd a15 ge_4
          have ov := ov.updD a15 d_ov_b_4
          have hI := hI.updD a15 d_hI_b_4
          have szB := Nat.le_trans szB a15.size
          have hb_3 := hb_3.upd a15 n_3__4
          have hb_6 := hb_6.upd a15 n_4__6.symm
          have om36 := om36.updD a15 d_om36_b_4
          have hb_4 : Has w15 b_4 (sC (met ++ [placeR r], v, true) a_36 c_36 va vc) _ := hb_4
          refine RL.nil (RC.back ?_)
          refine RC.seq ?_
          refine RC.region rfl ?_
          refine RL.ev (.field0 fo34_0 rfl) rfl rfl ?_
          refine RL.ev (.load1 sh31 rfl (hb_3.cell rfl)) rfl rfl ?_
          refine RL.ev (.as (v' := .int .i64 (placeR r)) (.move rfl) (by rw [hay])) rfl rfl ?_
          refine RL.ev (.indexS sl31 rfl rfl (by omega) (hNd.is (i := 0) (by simp only [List.length_map, List.length_cons, List.length_nil]; omega))) rfl rfl ?_
          refine RL.ev (.loadR (y.cells) sh97 rfl ((hNd.sub S).rowAt (enc := Node.cells) (getA_get hy).1) rfl) rfl rfl ?_
          refine RL.alloc ze97 rfl rfl (fun b_8 w_8 e_8 z_8 hb_8 s_8 => ?_)
          have ge_8 := S.le e_8
          have n_3__8 := hb_3.ne e_8
          have n_4__8 := hb_4.ne e_8
          have n_6__8 := hb_6.ne e_8
          have d_ov_b_8 := ov.neNew e_8
          have d_hI_b_8 := hI.neNew e_8
          have d_om36_b_8 := om36.neNew e_8
          have S := S.trans s_8
          have ov := ov.sub s_8
          have hI := hI.sub s_8
          have szB := Nat.le_trans szB s_8.size
          have hb_3 := hb_3.sub s_8
          have hb_4 := hb_4.sub s_8
          have hb_6 := hb_6.sub s_8
          have om36 := om36.sub s_8
          refine RL.store sh97 rfl rfl rfl hb_8 (by exact Nat.le_of_ble_eq_true rfl) (by rfl) rfl (fun w16 z16 hb_8 a16 => ?_)
          have S := S.upd a16 ge_8
          have ov := ov.updD a16 d_ov_b_8
          have hI := hI.updD a16 d_hI_b_8
          have szB := Nat.le_trans szB a16.size
          have hb_3 := hb_3.upd a16 n_3__8
          have hb_4 := hb_4.upd a16 n_4__8
          have hb_6 := hb_6.upd a16 n_6__8
          have om36 := om36.updD a16 d_om36_b_8
          have hb_8 : Has w16 b_8 (y.cells) _ := hb_8.now (by kernel_rfl)
          refine RL.nil (RC.back ?_)
          refine RC.seq ?_
          refine RC.seq ?_
          refine RC.region rfl ?_
          refine RL.ev (.field0 fo97_0 rfl) rfl rfl ?_
          refine RL.ev (.load1 sh3 rfl (hb_8.cell rfl)) rfl rfl ?_
          refine RL.ev (.bin rfl rfl rfl) rfl rfl ?_
          refine RL.nil (RC.back ?_)
          refine RC.cond_dec rfl (fun h17 => ?_) (fun h17 => ?_)
          ·
            have h3 : y.kind = 3 := h17
            have hres := readH_leaf (k := k) h0 hy hnm h3
            refine RC.seq ?_
            refine RC.region rfl ?_
            refine RL.ev (.field0 fo90_1 rfl) rfl rfl ?_
            refine RL.ev (.load1 sh26 rfl (hb_4.cell rfl)) rfl rfl ?_
            refine RL.ev (.field0 fo97_2 rfl) rfl rfl ?_
            refine RL.ev (.load1 sh2 rfl (hb_8.cell rfl)) rfl rfl ?_
            refine RL.ev (.field0 fo97_3 rfl) rfl rfl ?_
            refine RL.ev (.load1 sh2 rfl (hb_8.cell rfl)) rfl rfl ?_
            refine RL.ev (.buildS ze29 pl29 rfl rfl) rfl rfl ?_
            refine RL.buildSlice1 sl26 _ ze29 rfl rfl rfl rfl rfl rfl rfl (fun b_53 w_53 e_53 z_53 hb_53 s_53 => ?_)
            have ge_53 := S.le e_53
            have n_3__53 := hb_3.ne e_53
            have n_4__53 := hb_4.ne e_53
            have n_6__53 := hb_6.ne e_53
            have n_8__53 := hb_8.ne e_53
            have d_ov_b_53 := ov.neNew e_53
            have d_hI_b_53 := hI.neNew e_53
            have d_om36_b_53 := om36.neNew e_53
            have S := S.trans s_53
            have ov := ov.sub s_53
            have hI := hI.sub s_53
            have szB := Nat.le_trans szB s_53.size
            have hb_3 := hb_3.sub s_53
            have hb_4 := hb_4.sub s_53
            have hb_6 := hb_6.sub s_53
            have om36 := om36.sub s_53
            have hb_8 := hb_8.sub s_53
            have sz_54 := S.size
            have ltb_3_54 := hb_3.lt
            have ltb_4_54 := hb_4.lt
            have ltb_6_54 := hb_6.lt
            have ltb_8_54 := hb_8.lt
            have ltb_53_54 := hb_53.lt
            refine RL.append2 (base := E) (rows := v.map It.cells) (news := [_]) sl26 ze29 rfl rfl rfl rfl (.inl ov) (Has.slOne hb_53) rfl (by intro r hr; rw [List.mem_singleton] at hr; subst hr; rfl) rfl (by (try simp only [List.length_map, List.length_nil, List.length_append, List.length_cons]); omega) (by (try simp only [List.length_map, List.length_nil, List.length_append, List.length_cons]); omega) (by omega) rfl rfl (fun v_54 w_54 hc_54 ho_54 ag_54 ob_54 => ?_)
            have ov54 := ho_54 (.inl (by simp))
            rw [show _ ++ [_] = ((v ++ [(⟨y.n, y.v⟩ : It)]).map It.cells) from by rw [List.map_append]; rfl] at ov54
            have dd_ov54_hI := obDF ob_54 dv (fun k hk => (hI.ge k hk).2)
            have d_ov54_b_3 := obNe ob_54 d_ov_b_3 hb_3.lt
            have d_ov54_b_4 := obNe ob_54 d_ov_b_4 hb_4.lt
            have d_ov54_b_6 := obNe ob_54 d_ov_b_6 hb_6.lt
            have dd_ov54_om36 := obDD ob_54 (fun k h1 h2 => dd_om36_ov k h2 h1) (fun k hk => (om36.ge k hk).2)
            have d_ov54_b_8 := obNe ob_54 d_ov_b_8 hb_8.lt
            have S := S.agrN ag_54 (fun k e => Nat.le_trans (by omega) e.2)
            have hI := hI.step ag_54 (fun k hk e => dv k e.1 hk)
            have szB := Nat.le_trans szB ag_54.size
            have hb_3 := hb_3.step ag_54 (fun e => d_ov_b_3 _ e.1 rfl)
            have hb_4 := hb_4.step ag_54 (fun e => d_ov_b_4 _ e.1 rfl)
            have hb_6 := hb_6.step ag_54 (fun e => d_ov_b_6 _ e.1 rfl)
            have om36 := om36.step ag_54 (fun k hk e => (fun k h1 h2 => dd_om36_ov k h2 h1) k e.1 hk)
            have hb_8 := hb_8.step ag_54 (fun e => d_ov_b_8 _ e.1 rfl)
            obtain ⟨a_54, c_54, rfl, k_54⟩ := ov54.form
            refine RL.ev (.field0 fo90_1 rfl) rfl rfl ?_
            refine RL.store sh26 rfl rfl rfl hb_4 (by exact Nat.le_of_ble_eq_true rfl) (by rfl) rfl (fun w18 z18 hb_4 a18 => ?_)
            have S := S.upd a18 ge_4
            have hI := hI.updD a18 d_hI_b_4
            have szB := Nat.le_trans szB a18.size
            have hb_3 := hb_3.upd a18 n_3__4
            have hb_6 := hb_6.upd a18 n_4__6.symm
            have om36 := om36.updD a18 d_om36_b_4
            have hb_8 := hb_8.upd a18 n_4__8.symm
            have ov54 := ov54.updD a18 d_ov54_b_4
            have hb_4 : Has w18 b_4 (sC (met ++ [placeR r], v ++ [⟨y.n, y.v⟩], true) a_36 c_36 a_54 c_54) _ := hb_4
            refine RL.nil (RC.back ?_)
            refine RC.seq ?_
            refine RC.region rfl ?_
            refine RL.ev (.loadR (sC (met ++ [placeR r], v ++ [⟨y.n, y.v⟩], true) a_36 c_36 a_54 c_54) sh90 rfl hb_4.row rfl) rfl rfl ?_
            refine RL.store sh90 rfl rfl rfl hb_6 (by exact Nat.le_of_ble_eq_true rfl) (by rfl) rfl (fun w19 z19 hb_6 a19 => ?_)
            have S := S.upd a19 ge_6
            have hI := hI.updD a19 d_hI_b_6
            have szB := Nat.le_trans szB a19.size
            have hb_3 := hb_3.upd a19 n_3__6
            have hb_4 := hb_4.upd a19 n_4__6
            have om36 := om36.updD a19 d_om36_b_6
            have hb_8 := hb_8.upd a19 n_6__8.symm
            have ov54 := ov54.updD a19 d_ov54_b_6
            have hb_6 : Has w19 b_6 (sC (met ++ [placeR r], v ++ [⟨y.n, y.v⟩], true) a_36 c_36 a_54 c_54) _ := hb_6.now (by kernel_rfl)
            refine RL.nil (RC.back ?_)
            refine RC.done (rs := [.cell 6 90]) (vs := [_]) rfl rfl ⟨⟨_, rfl, .inr ⟨sC (met ++ [placeR r], v ++ [⟨y.n, y.v⟩], true) a_36 c_36 a_54 c_54, sh90, hb_6.row, rfl⟩⟩, trivial⟩ ?_
            -- end 5
            rw [hres]
            exact ⟨a_36, c_36, a_54, c_54, rfl, ⟨S, szB, om36, ov54, fun k h1 h2 => dd_ov54_om36 k h2 h1, hI, dd_om36_hI, dd_ov54_hI⟩⟩
          ·
            have h3 : ¬ y.kind = 3 := h17
            refine RC.skip (RC.back ?_)
            refine RC.seq ?_
            refine RC.seq ?_
            refine RC.region rfl ?_
            refine RL.ev (.field0 fo97_0 rfl) rfl rfl ?_
            refine RL.ev (.load1 sh3 rfl (hb_8.cell rfl)) rfl rfl ?_
            refine RL.ev (.bin rfl rfl rfl) rfl rfl ?_
            refine RL.ev (.move rfl) rfl rfl ?_
            refine RL.split 60 rfl (fun h20 => ?_) (fun h20 => ?_)
            ·
              have h2 : ¬ y.kind = 2 := h20
              refine RL.ev (.field0 fo97_0 rfl) rfl rfl ?_
              refine RL.ev (.load1 sh3 rfl (hb_8.cell rfl)) rfl rfl ?_
              refine RL.ev (.bin rfl rfl rfl) rfl rfl ?_
              refine RL.ev (.pick_t rfl rfl) rfl rfl ?_
              refine RL.nil (RC.back ?_)
              refine RC.cond_dec rfl (fun h21 => ?_) (fun h21 => ?_)
              ·
                have h4 : ¬ y.kind = 4 := h21
                have hres := readH_odd (k := k) h0 hy hnm h3 ⟨h2, h4⟩
                refine RC.seq ?_
                refine RC.region rfl ?_
                refine RL.ev (.field0 fo90_2 rfl) rfl rfl ?_
                refine RL.store sh4 rfl rfl rfl hb_4 (by exact Nat.le_of_ble_eq_true rfl) (by rfl) rfl (fun w22 z22 hb_4 a22 => ?_)
                have S := S.upd a22 ge_4
                have ov := ov.updD a22 d_ov_b_4
                have hI := hI.updD a22 d_hI_b_4
                have szB := Nat.le_trans szB a22.size
                have hb_3 := hb_3.upd a22 n_3__4
                have hb_6 := hb_6.upd a22 n_4__6.symm
                have om36 := om36.updD a22 d_om36_b_4
                have hb_8 := hb_8.upd a22 n_4__8.symm
                have hb_4 : Has w22 b_4 (sC (met ++ [placeR r], v, false) a_36 c_36 va vc) _ := hb_4
                refine RL.nil (RC.back ?_)
                refine RC.seq ?_
                refine RC.region rfl ?_
                refine RL.ev (.loadR (sC (met ++ [placeR r], v, false) a_36 c_36 va vc) sh90 rfl hb_4.row rfl) rfl rfl ?_
                refine RL.store sh90 rfl rfl rfl hb_6 (by exact Nat.le_of_ble_eq_true rfl) (by rfl) rfl (fun w23 z23 hb_6 a23 => ?_)
                have S := S.upd a23 ge_6
                have ov := ov.updD a23 d_ov_b_6
                have hI := hI.updD a23 d_hI_b_6
                have szB := Nat.le_trans szB a23.size
                have hb_3 := hb_3.upd a23 n_3__6
                have hb_4 := hb_4.upd a23 n_4__6
                have om36 := om36.updD a23 d_om36_b_6
                have hb_8 := hb_8.upd a23 n_6__8.symm
                have hb_6 : Has w23 b_6 (sC (met ++ [placeR r], v, false) a_36 c_36 va vc) _ := hb_6.now (by kernel_rfl)
                refine RL.nil (RC.back ?_)
                refine RC.done (rs := [.cell 6 90]) (vs := [_]) rfl rfl ⟨⟨_, rfl, .inr ⟨sC (met ++ [placeR r], v, false) a_36 c_36 va vc, sh90, hb_6.row, rfl⟩⟩, trivial⟩ ?_
                -- end 6
                rw [hres]
                exact ⟨a_36, c_36, va, vc, rfl, ⟨S, szB, om36, ov, dd_om36_ov, hI, dd_om36_hI, dv⟩⟩
              ·
                have h4 : ¬ (¬ y.kind = 2 ∧ ¬ y.kind = 4) := (fun e => e.2 (by have := h21; omega))
                have hres := readH_go (k := k) h0 hy hnm h3 h4
                refine RC.skip (RC.back ?_)
                refine RC.seq ?_
                refine RC.seq ?_
                refine RC.region rfl ?_
                refine RL.ev (.field0 fo97_5 rfl) rfl rfl ?_
                refine RL.ev (.as (v' := .agg (y.kids.map u6).toArray) (.loadR (y.kids.map u6) sh95 rfl (Has.row_at (pre := [i6 y.kind, i6 y.gen, i6 y.n, i6 y.v, i6 y.s]) (mid := y.kids.map u6) (post := [i6 y.pre, i6 y.suf]) hb_8 rfl) rfl) (by rfl)) rfl rfl ?_
                refine RL.ev (.move rfl) rfl rfl ?_
                refine RL.nil (RC.back ?_)
                refine RC.block ?_
                refine RC.loop (α := Nat × Option Addr × Nat × Option Addr × Nat) (fun x => [(3, .pointer (some ⟨b_3, 0, none⟩)), (4, .pointer (some ⟨b_4, 0, none⟩)), (6, .pointer (some ⟨b_6, 0, none⟩)), (68, .agg (y.kids.map u6).toArray), (69, .int .i64 (x.1 : Int))]) (fun x w24 => x.1 ≤ 9 ∧ RhL w0 E K I A k y.kids (met ++ [placeR r], v, true) b_3 b_4 b_6 na fa nc fc x.1 x.2.1 x.2.2.1 x.2.2.2.1 x.2.2.2.2 w24) (fun x => 9 - x.1) (0, a_36, c_36, va, vc) (keep_of (by repeat (first | exact trivial | refine And.intro rfl ?_))) (⟨Nat.zero_le _, ⟨⟨(met ++ [placeR r], v, true), rfl, hok.add hrg hnm true, Nat.le_refl _, ⟨S, szB, om36, ov, dd_om36_ov, hI.self.and (hb_3.ft.and (hb_4.ft.and hb_6.ft)), fun k h1 h2 => h2.elim (dd_om36_hI k h1) (fun h2 => h2.elim (d_om36_b_3 k h1) (fun h2 => h2.elim (d_om36_b_4 k h1) (d_om36_b_6 k h1))), fun k h1 h2 => h2.elim (dv k h1) (fun h2 => h2.elim (d_ov_b_3 k h1) (fun h2 => h2.elim (d_ov_b_4 k h1) (d_ov_b_6 k h1)))⟩⟩⟩⟩) (fun x w24 hJ => ?_)
                obtain ⟨j, ma1, mc1, va1, vc1⟩ := x; obtain ⟨hj, hL⟩ := hJ; simp only [] at hj hL; obtain ⟨t1, ht1, hok1, hlm1, hs1⟩ := hL.is; obtain ⟨m1, v1, o1⟩ := t1; obtain ⟨S, szB, om, ov, dmv, hI2, dm2, dv2⟩ := hs1; simp only [] at om ov dmv dm2 dv2; obtain ⟨hI, hb_3, hb_4, hb_6⟩ := hI2.now; have q1m := fun k h1 h2 => dm2 k h1 (.inl h2); have q1v := fun k h1 h2 => dv2 k h1 (.inl h2); have q3m := fun k h1 h2 => dm2 k h1 (.inr (.inl h2)); have q3v := fun k h1 h2 => dv2 k h1 (.inr (.inl h2)); have q4m := fun k h1 h2 => dm2 k h1 (.inr (.inr (.inl h2))); have q4v := fun k h1 h2 => dv2 k h1 (.inr (.inr (.inl h2))); have q6m := fun k h1 h2 => dm2 k h1 (.inr (.inr (.inr h2))); have q6v := fun k h1 h2 => dv2 k h1 (.inr (.inr (.inr h2)))
                refine RC.seq ?_
                refine RC.region rfl ?_
                refine RL.ev (.bin rfl rfl rfl) rfl rfl ?_
                refine RL.nil (RC.back ?_)
                refine RC.seq ?_
                refine RC.cond_dec rfl (fun h25 => ?_) (fun h25 => ?_)
                ·
                  obtain ⟨z, hz⟩ := getSome (l := y.kids) (i := j) (by show j < 9; omega)
                  refine RC.skip (RC.back ?_)
                  refine RC.seq ?_
                  refine RC.block ?_
                  refine RC.seq ?_
                  refine RC.region rfl ?_
                  refine RL.ev (.index1 ar95 sh36 rfl rfl (by omega) ((by simp [hz] : (y.kids.map u6).toArray[(j : Int).toNat * 1]? = some (u6 z)))) rfl rfl ?_
                  refine RL.ev (.assign rfl) rfl rfl ?_
                  refine RL.nil (RC.back ?_)
                  refine RC.region rfl ?_
                  refine RL.ev (.loadR ([.slice na A.nodes.length nc, .slice fa A.free.length fc]) sh34 rfl hb_3.row rfl) rfl rfl ?_
                  refine RL.ev (.loadR (sC (m1, v1, o1) ma1 mc1 va1 vc1) sh90 rfl hb_4.row rfl) rfl rfl ?_
                  refine RL.ev (.move rfl) rfl rfl ?_
                  refine RL.call rfl ok52 (ih m1 v1 o1 ma1 mc1 va1 vc1 z (fun k => K k ∨ k = b_3 ∨ k = b_4 ∨ k = b_6) (fun u => Ft K I u ∧ Has u b_3 [.slice na A.nodes.length nc, .slice fa A.free.length fc] 34 ∧ Has u b_4 (sC (m1, v1, o1) ma1 mc1 va1 vc1) 90 ∧ Has u b_6 [.slice none 0 0, .slice none 0 0, .bool false] 90) w24 (hyo.kids z (List.mem_of_getElem? hz)) (by simp only [List.length_append, List.length_singleton] at hlm1; omega) hok1 ⟨S, szB, om, ov, dmv, hI.self.and (hb_3.ft.and (hb_4.ft.and hb_6.ft)), dm2, dv2⟩) rfl rfl ?_
                  rintro vr w26 ⟨ma3, mc3, va3, vc3, hvr, hs3⟩
                  obtain ⟨t3, ht3⟩ : ∃ t3, readH A k (m1, v1, o1) z = t3 := ⟨_, rfl⟩
                  have hinv3 := readH_inv (A := A) k (m1, v1, o1) z hok1
                  rw [ht3] at hvr hs3 hinv3
                  have ht4 := rhFold hz ht1 ht3
                  obtain ⟨S, szB, om, ov, dmv, hI2, dm2, dv2⟩ := hs3
                  obtain ⟨hI, hb_3, hb_4, hb_6⟩ := hI2.now
                  subst hvr
                  have q1m := fun k h1 h2 => dm2 k h1 (.inl h2)
                  have q1v := fun k h1 h2 => dv2 k h1 (.inl h2)
                  have q3m := fun k h1 h2 => dm2 k h1 (.inr (.inl h2))
                  have q3v := fun k h1 h2 => dv2 k h1 (.inr (.inl h2))
                  have q4m := fun k h1 h2 => dm2 k h1 (.inr (.inr (.inl h2)))
                  have q4v := fun k h1 h2 => dv2 k h1 (.inr (.inr (.inl h2)))
                  have q6m := fun k h1 h2 => dm2 k h1 (.inr (.inr (.inr h2)))
                  have q6v := fun k h1 h2 => dv2 k h1 (.inr (.inr (.inr h2)))
                  refine RL.store sh90 rfl rfl rfl hb_4 (by exact Nat.le_of_ble_eq_true rfl) (by rfl) rfl (fun w28 z28 hb_4 a28 => ?_)
                  have S := S.upd a28 ge_4
                  have om := om.updD a28 q4m
                  have ov := ov.updD a28 q4v
                  have hI := hI.updD a28 d_hI_b_4
                  have szB := Nat.le_trans szB a28.size
                  have hb_3 := hb_3.upd a28 n_3__4
                  have hb_6 := hb_6.upd a28 n_4__6.symm
                  have hb_4 : Has w28 b_4 (sC t3 ma3 mc3 va3 vc3) _ := hb_4.now (by kernel_rfl)
                  refine RL.nil (RC.back ?_)
                  refine RC.region rfl ?_
                  refine RL.ev (.as (.bin rfl rfl rfl) (wi64 (y := ((j + 1 : Nat) : Int)) (by omega) (by omega))) rfl rfl ?_
                  refine RL.ev (.move rfl) rfl rfl ?_
                  exact RL.nil (fun a ka => ⟨(j + 1, ma3, mc3, va3, vc3), ⟨by omega, ⟨⟨_, ht4, hinv3.1, Nat.le_trans hlm1 hinv3.2, ⟨S, szB, om, ov, dmv, hI.self.and (hb_3.ft.and (hb_4.ft.and hb_6.ft)), dm2, dv2⟩⟩⟩⟩, by omega, ka.keep (keep_of (by repeat (first | exact trivial | refine And.intro rfl ?_)))⟩)
                ·
                  obtain rfl : j = 9 := (by omega)
                  rw [rhAll] at ht1
                  rw [ht1] at hres
                  refine RC.exit rfl (RC.back ?_)
                  refine RC.seq ?_
                  refine RC.region rfl ?_
                  refine RL.ev (.loadR (sC (m1, v1, o1) ma1 mc1 va1 vc1) sh90 rfl hb_4.row rfl) rfl rfl ?_
                  refine RL.store sh90 rfl rfl rfl hb_6 (by exact Nat.le_of_ble_eq_true rfl) (by rfl) rfl (fun w29 z29 hb_6 a29 => ?_)
                  have S := S.upd a29 ge_6
                  have om := om.updD a29 q6m
                  have ov := ov.updD a29 q6v
                  have hI := hI.updD a29 d_hI_b_6
                  have szB := Nat.le_trans szB a29.size
                  have hb_3 := hb_3.upd a29 n_3__6
                  have hb_4 := hb_4.upd a29 n_4__6
                  have hb_6 : Has w29 b_6 (sC (m1, v1, o1) ma1 mc1 va1 vc1) _ := hb_6.now (by kernel_rfl)
                  refine RL.nil (RC.back ?_)
                  refine RC.done (rs := [.cell 6 90]) (vs := [_]) rfl rfl ⟨⟨_, rfl, .inr ⟨sC (m1, v1, o1) ma1 mc1 va1 vc1, sh90, hb_6.row, rfl⟩⟩, trivial⟩ ?_
                  -- end 7
                  rw [hres]
                  exact ⟨ma1, mc1, va1, vc1, rfl, ⟨S, szB, om, ov, dmv, hI, q1m, q1v⟩⟩
            ·
              have h4 : ¬ (¬ y.kind = 2 ∧ ¬ y.kind = 4) := (fun e => e.1 (by have := h20; omega))
              have hres := readH_go (k := k) h0 hy hnm h3 h4
              refine RL.off rfl rfl ?_
              refine RL.off rfl rfl ?_
              refine RL.off rfl rfl ?_
              refine RL.ev (.pick_f rfl rfl) rfl rfl ?_
              refine RL.nil (RC.back ?_)
              refine RC.cond_f rfl ?_
              refine RC.skip (RC.back ?_)
              refine RC.seq ?_
              refine RC.seq ?_
              refine RC.region rfl ?_
              refine RL.ev (.field0 fo97_5 rfl) rfl rfl ?_
              refine RL.ev (.as (v' := .agg (y.kids.map u6).toArray) (.loadR (y.kids.map u6) sh95 rfl (Has.row_at (pre := [i6 y.kind, i6 y.gen, i6 y.n, i6 y.v, i6 y.s]) (mid := y.kids.map u6) (post := [i6 y.pre, i6 y.suf]) hb_8 rfl) rfl) (by rfl)) rfl rfl ?_
              refine RL.ev (.move rfl) rfl rfl ?_
              refine RL.nil (RC.back ?_)
              refine RC.block ?_
              refine RC.loop (α := Nat × Option Addr × Nat × Option Addr × Nat) (fun x => [(3, .pointer (some ⟨b_3, 0, none⟩)), (4, .pointer (some ⟨b_4, 0, none⟩)), (6, .pointer (some ⟨b_6, 0, none⟩)), (68, .agg (y.kids.map u6).toArray), (69, .int .i64 (x.1 : Int))]) (fun x w30 => x.1 ≤ 9 ∧ RhL w0 E K I A k y.kids (met ++ [placeR r], v, true) b_3 b_4 b_6 na fa nc fc x.1 x.2.1 x.2.2.1 x.2.2.2.1 x.2.2.2.2 w30) (fun x => 9 - x.1) (0, a_36, c_36, va, vc) (keep_of (by repeat (first | exact trivial | refine And.intro rfl ?_))) (⟨Nat.zero_le _, ⟨⟨(met ++ [placeR r], v, true), rfl, hok.add hrg hnm true, Nat.le_refl _, ⟨S, szB, om36, ov, dd_om36_ov, hI.self.and (hb_3.ft.and (hb_4.ft.and hb_6.ft)), fun k h1 h2 => h2.elim (dd_om36_hI k h1) (fun h2 => h2.elim (d_om36_b_3 k h1) (fun h2 => h2.elim (d_om36_b_4 k h1) (d_om36_b_6 k h1))), fun k h1 h2 => h2.elim (dv k h1) (fun h2 => h2.elim (d_ov_b_3 k h1) (fun h2 => h2.elim (d_ov_b_4 k h1) (d_ov_b_6 k h1)))⟩⟩⟩⟩) (fun x w30 hJ => ?_)
              obtain ⟨j, ma1, mc1, va1, vc1⟩ := x; obtain ⟨hj, hL⟩ := hJ; simp only [] at hj hL; obtain ⟨t1, ht1, hok1, hlm1, hs1⟩ := hL.is; obtain ⟨m1, v1, o1⟩ := t1; obtain ⟨S, szB, om, ov, dmv, hI2, dm2, dv2⟩ := hs1; simp only [] at om ov dmv dm2 dv2; obtain ⟨hI, hb_3, hb_4, hb_6⟩ := hI2.now; have q1m := fun k h1 h2 => dm2 k h1 (.inl h2); have q1v := fun k h1 h2 => dv2 k h1 (.inl h2); have q3m := fun k h1 h2 => dm2 k h1 (.inr (.inl h2)); have q3v := fun k h1 h2 => dv2 k h1 (.inr (.inl h2)); have q4m := fun k h1 h2 => dm2 k h1 (.inr (.inr (.inl h2))); have q4v := fun k h1 h2 => dv2 k h1 (.inr (.inr (.inl h2))); have q6m := fun k h1 h2 => dm2 k h1 (.inr (.inr (.inr h2))); have q6v := fun k h1 h2 => dv2 k h1 (.inr (.inr (.inr h2)))
              refine RC.seq ?_
              refine RC.region rfl ?_
              refine RL.ev (.bin rfl rfl rfl) rfl rfl ?_
              refine RL.nil (RC.back ?_)
              refine RC.seq ?_
              refine RC.cond_dec rfl (fun h31 => ?_) (fun h31 => ?_)
              ·
                obtain ⟨z, hz⟩ := getSome (l := y.kids) (i := j) (by show j < 9; omega)
                refine RC.skip (RC.back ?_)
                refine RC.seq ?_
                refine RC.block ?_
                refine RC.seq ?_
                refine RC.region rfl ?_
                refine RL.ev (.index1 ar95 sh36 rfl rfl (by omega) ((by simp [hz] : (y.kids.map u6).toArray[(j : Int).toNat * 1]? = some (u6 z)))) rfl rfl ?_
                refine RL.ev (.assign rfl) rfl rfl ?_
                refine RL.nil (RC.back ?_)
                refine RC.region rfl ?_
                refine RL.ev (.loadR ([.slice na A.nodes.length nc, .slice fa A.free.length fc]) sh34 rfl hb_3.row rfl) rfl rfl ?_
                refine RL.ev (.loadR (sC (m1, v1, o1) ma1 mc1 va1 vc1) sh90 rfl hb_4.row rfl) rfl rfl ?_
                refine RL.ev (.move rfl) rfl rfl ?_
                refine RL.call rfl ok52 (ih m1 v1 o1 ma1 mc1 va1 vc1 z (fun k => K k ∨ k = b_3 ∨ k = b_4 ∨ k = b_6) (fun u => Ft K I u ∧ Has u b_3 [.slice na A.nodes.length nc, .slice fa A.free.length fc] 34 ∧ Has u b_4 (sC (m1, v1, o1) ma1 mc1 va1 vc1) 90 ∧ Has u b_6 [.slice none 0 0, .slice none 0 0, .bool false] 90) w30 (hyo.kids z (List.mem_of_getElem? hz)) (by simp only [List.length_append, List.length_singleton] at hlm1; omega) hok1 ⟨S, szB, om, ov, dmv, hI.self.and (hb_3.ft.and (hb_4.ft.and hb_6.ft)), dm2, dv2⟩) rfl rfl ?_
                rintro vr w32 ⟨ma3, mc3, va3, vc3, hvr, hs3⟩
                obtain ⟨t3, ht3⟩ : ∃ t3, readH A k (m1, v1, o1) z = t3 := ⟨_, rfl⟩
                have hinv3 := readH_inv (A := A) k (m1, v1, o1) z hok1
                rw [ht3] at hvr hs3 hinv3
                have ht4 := rhFold hz ht1 ht3
                obtain ⟨S, szB, om, ov, dmv, hI2, dm2, dv2⟩ := hs3
                obtain ⟨hI, hb_3, hb_4, hb_6⟩ := hI2.now
                subst hvr
                have q1m := fun k h1 h2 => dm2 k h1 (.inl h2)
                have q1v := fun k h1 h2 => dv2 k h1 (.inl h2)
                have q3m := fun k h1 h2 => dm2 k h1 (.inr (.inl h2))
                have q3v := fun k h1 h2 => dv2 k h1 (.inr (.inl h2))
                have q4m := fun k h1 h2 => dm2 k h1 (.inr (.inr (.inl h2)))
                have q4v := fun k h1 h2 => dv2 k h1 (.inr (.inr (.inl h2)))
                have q6m := fun k h1 h2 => dm2 k h1 (.inr (.inr (.inr h2)))
                have q6v := fun k h1 h2 => dv2 k h1 (.inr (.inr (.inr h2)))
                refine RL.store sh90 rfl rfl rfl hb_4 (by exact Nat.le_of_ble_eq_true rfl) (by rfl) rfl (fun w34 z34 hb_4 a34 => ?_)
                have S := S.upd a34 ge_4
                have om := om.updD a34 q4m
                have ov := ov.updD a34 q4v
                have hI := hI.updD a34 d_hI_b_4
                have szB := Nat.le_trans szB a34.size
                have hb_3 := hb_3.upd a34 n_3__4
                have hb_6 := hb_6.upd a34 n_4__6.symm
                have hb_4 : Has w34 b_4 (sC t3 ma3 mc3 va3 vc3) _ := hb_4.now (by kernel_rfl)
                refine RL.nil (RC.back ?_)
                refine RC.region rfl ?_
                refine RL.ev (.as (.bin rfl rfl rfl) (wi64 (y := ((j + 1 : Nat) : Int)) (by omega) (by omega))) rfl rfl ?_
                refine RL.ev (.move rfl) rfl rfl ?_
                exact RL.nil (fun a ka => ⟨(j + 1, ma3, mc3, va3, vc3), ⟨by omega, ⟨⟨_, ht4, hinv3.1, Nat.le_trans hlm1 hinv3.2, ⟨S, szB, om, ov, dmv, hI.self.and (hb_3.ft.and (hb_4.ft.and hb_6.ft)), dm2, dv2⟩⟩⟩⟩, by omega, ka.keep (keep_of (by repeat (first | exact trivial | refine And.intro rfl ?_)))⟩)
              ·
                obtain rfl : j = 9 := (by omega)
                rw [rhAll] at ht1
                rw [ht1] at hres
                refine RC.exit rfl (RC.back ?_)
                refine RC.seq ?_
                refine RC.region rfl ?_
                refine RL.ev (.loadR (sC (m1, v1, o1) ma1 mc1 va1 vc1) sh90 rfl hb_4.row rfl) rfl rfl ?_
                refine RL.store sh90 rfl rfl rfl hb_6 (by exact Nat.le_of_ble_eq_true rfl) (by rfl) rfl (fun w35 z35 hb_6 a35 => ?_)
                have S := S.upd a35 ge_6
                have om := om.updD a35 q6m
                have ov := ov.updD a35 q6v
                have hI := hI.updD a35 d_hI_b_6
                have szB := Nat.le_trans szB a35.size
                have hb_3 := hb_3.upd a35 n_3__6
                have hb_4 := hb_4.upd a35 n_4__6
                have hb_6 : Has w35 b_6 (sC (m1, v1, o1) ma1 mc1 va1 vc1) _ := hb_6.now (by kernel_rfl)
                refine RL.nil (RC.back ?_)
                refine RC.done (rs := [.cell 6 90]) (vs := [_]) rfl rfl ⟨⟨_, rfl, .inr ⟨sC (m1, v1, o1) ma1 mc1 va1 vc1, sh90, hb_6.row, rfl⟩⟩, trivial⟩ ?_
                -- end 8
                rw [hres]
                exact ⟨ma1, mc1, va1, vc1, rfl, ⟨S, szB, om, ov, dmv, hI, q1m, q1v⟩⟩
end Go.Proofs.Ytbfjobmebkhblaa
set_option linter.unusedVariables false
set_option linter.unusedSimpArgs false
namespace Go.Proofs.Ytbfjobmebkhblaa
open Go Go.XL
/-- what is read of a reference -/
def readT (A : Ar) (r : Int) : Rh := readH A (10 + A.nodes.length + 2) ([], [], true) r
theorem readT_tab {A : Ar} {r : Int} {L : List It} (h : IsH A 10 r L) (hap : Ap L) : (readT A r).2.2 = true ∧ (readT A r).2.1.Perm L := by
  unfold readT
  rw [readH_ok A.nodes.length h hap [] [] List.nodup_nil (fun p _ h => by cases h)]
  exact ⟨rfl, by rw [List.nil_append]; exact rd_perm h⟩
theorem readT_len (A : Ar) (r : Int) : (readT A r).2.1.length ≤ A.nodes.length := by
  have h := (readH_inv (A := A) (10 + A.nodes.length + 2) ([], [], true) r ⟨List.nodup_nil, fun p h => (by cases h), Nat.le_refl _⟩).1
  have h1 := h.row
  have h2 := h.len
  unfold readT
  omega
theorem c_readT (A : Ar) (na fa : Option Addr) (nc fc : Nat) (hn : A.nodes.length ≤ 1000000) (r : Int) (hr : U64 r) (w : World) (hA : ArR w na fa A) :
    FC Try.prog 52 [arV na fa nc fc A, .agg (sC ([], [], true) none 0 none 0).toArray, .int .u64 r] w (fun u w' => Sub w w' ∧ ∃ ma mc va vc, u = .agg (sC (readT A r) ma mc va vc).toArray ∧ Ows w.heap.size w' 29 2 (.slice va ((readT A r).2.1.map It.cells).length vc) ((readT A r).2.1.map It.cells)) := by
  refine FC.mono (c_ReadH A na fa nc fc hn w hA w.heap.size (Nat.le_refl _) (10 + A.nodes.length + 2) [] [] true none 0 none 0 r (fun _ => False) (fun _ => True) w hr (by show A.nodes.length + 1 ≤ 0 + _; omega) ⟨List.nodup_nil, fun p h => (by cases h), Nat.le_refl _⟩ ⟨Sub.refl _, Nat.le_refl _, Ows.nil _ _ _ _, Ows.nil _ _ _ _, fun _ h => obNil h, ⟨fun _ h => h.elim, fun _ _ => trivial⟩, fun _ _ h => h.elim, fun _ _ h => h.elim⟩) ?_
  rintro u w' ⟨ma, mc, va, vc, rfl, hs⟩
  exact ⟨hs.S, ma, mc, va, vc, rfl, hs.ov⟩
theorem c_row9 (A : Ar) (na fa : Option Addr) (nc fc : Nat) (hn : A.nodes.length ≤ 1000000) (r : Int) (hr : U64 r) (w : World) (hA : ArR w na fa A) :
    FC Try.prog 28 [arV na fa nc fc A, .int .u64 r] w (fun u w' => Sub w w' ∧ ∃ a c, u = .slice a (readT A r).2.1.length c ∧ Sl w' a 2 ((readT A r).2.1.map It.cells) ∧ (readT A r).2.1.length ≤ c ∧ (readT A r).2.1.length ≤ A.nodes.length) := by
  have hNd := hA.nodes
  have hFr := hA.free
  have hlen := readT_len A r
  refine FC.intro Try.func28 rfl Try.ntmps28 rfl ?_
  have S := Sub.refl w
  refine RC.seq ?_
  refine RC.region rfl ?_
  refine RL.box rfl rfl rfl (fun b_2 w_2 e_2 z_2 hb_2 s_2 => ?_)
  have ge_2 := S.le e_2
  have S := S.trans s_2
  have hb_2 : Has w_2 b_2 ([.slice na A.nodes.length nc, .slice fa A.free.length fc]) _ := hb_2
  refine RL.ev (.assign rfl) rfl rfl ?_
  refine RL.nil (RC.back ?_)
  refine RC.seq ?_
  refine RC.region rfl ?_
  refine RL.ev (.loadR ([.slice na A.nodes.length nc, .slice fa A.free.length fc]) sh34 rfl hb_2.row rfl) rfl rfl ?_
  refine RL.ev (.buildS ze90 pl90 rfl rfl) rfl rfl ?_
  refine RL.ev (.move rfl) rfl rfl ?_
  refine RL.call rfl ok52 (c_readT A na fa nc fc hn r hr w_2 (hA.sub S)) rfl rfl ?_
  rintro vr w1 ⟨s2, ma, mc, va, vc, rfl, ov⟩
  have S := S.trans s2
  have hb_2 := hb_2.sub s2
  refine RL.ev (.fieldV Try.underlying90 rfl sh26 rfl rfl) rfl rfl ?_
  refine RL.ev (.assign rfl) rfl rfl ?_
  refine RL.nil (RC.back ?_)
  refine RC.done (rs := [.tmp 4]) (vs := [_]) rfl rfl ⟨rfl, trivial⟩ ?_
  -- end 1
  have hVc := ov.form
  obtain ⟨_, c', e, h⟩ := hVc
  cases e
  exact ⟨S, va, vc, (by show Value.slice va _ vc = _; rw [List.length_map]), ov.sl.1, by rw [List.length_map] at h; exact h, hlen⟩
end Go.Proofs.Ytbfjobmebkhblaa
set_option linter.unusedVariables false
set_option linter.unusedSimpArgs false
namespace Go.Proofs.Ytbfjobmebkhblaa
open Go Go.XL
def refOk (n : Nat) (r : Int) : Prop := r = 0 ∨ ∃ j : Nat, r = (j : Int) + 1 ∧ j < n
theorem refOk.u64 {n : Nat} {r : Int} (h : refOk n r) (hn : n ≤ 1000000) : U64 r := by
  rcases h with rfl | ⟨j, rfl, h⟩
  · exact zu64
  · unfold U64; omega
theorem refOk.right {n : Nat} {r : Int} (h : refOk n r) (hn : n ≤ 512) : rightR r = true := by
  rcases h with rfl | ⟨j, rfl, h⟩
  · exact (show rightR 0 = true by decide)
  · exact (place_of_at (a := j) (by omega)).2.2.2
/-- nodes that are laid -/
def GoodH (n : Nat) (l : List It) (y : Node) : Prop := ¬ y.kind = 0 ∧ (n ≤ 512 → well y = true) ∧ ((∀ z ∈ l, z.ok) → y.ok)
theorem GoodH.mono {n : Nat} {l m : List It} {y : Node} (h : GoodH n l y) (hm : ∀ z ∈ l, z ∈ m) : GoodH n m y := ⟨h.1, h.2.1, fun hz => h.2.2 fun z q => hz z (hm z q)⟩
structure LyH (ns : List Node) (at_ k : Nat) (l : List It) (ns' : List Node) (r : Int) : Prop where
  len : ns'.length = ns.length
  same : ∀ i : Nat, (i < at_ ∨ at_ + cnt k l ≤ i) → ns'[i]? = ns[i]?
  isH : ns.length ≤ 512 → ∀ A : Ar, (∀ i : Nat, at_ ≤ i → i < at_ + cnt k l → A.nodes[i]? = ns'[i]?) → IsH A k r l
  good : ∀ (i : Nat) y, at_ ≤ i → i < at_ + cnt k l → ns'[i]? = some y → GoodH ns.length l y
  ref : refOk ns.length r
/-- tables that are laid one behind the other -/
structure LyF (ns : List Node) (at_ k : Nat) (ps : List (List It)) (ns' : List Node) (ks : List Int) : Prop where
  kl : ks.length = ps.length
  len : ns'.length = ns.length
  same : ∀ i : Nat, (i < at_ ∨ at_ + (ps.map (cnt k)).sum ≤ i) → ns'[i]? = ns[i]?
  isH : ns.length ≤ 512 → ∀ A : Ar, (∀ i : Nat, at_ ≤ i → i < at_ + (ps.map (cnt k)).sum → A.nodes[i]? = ns'[i]?) → ∀ j, j < ps.length → IsH A k (ks.getD j 0) (ps.getD j [])
  good : ∀ (i : Nat) y, at_ ≤ i → i < at_ + (ps.map (cnt k)).sum → ns'[i]? = some y → GoodH ns.length ps.flatten y
  ref : ∀ z ∈ ks, refOk ns.length z
theorem LyF.nil (ns : List Node) (at_ k : Nat) : LyF ns at_ k [] ns [] :=
  ⟨rfl, rfl, fun _ _ => rfl, fun _ _ _ j h => absurd h (by simp), fun i y h1 h2 => absurd h2 (by simp; omega), fun z h => by cases h⟩
theorem getD_snoc {α : Type} {l : List α} {x d : α} {j n : Nat} (hl : l.length = n) : (j < n → (l ++ [x]).getD j d = l.getD j d) ∧ (l ++ [x]).getD n d = x := by
  subst hl
  constructor
  · intro h; rw [List.getD_eq_getElem?_getD, List.getD_eq_getElem?_getD, List.getElem?_append_left h]
  · rw [List.getD_eq_getElem?_getD, List.getElem?_append_right (Nat.le_refl _), Nat.sub_self]; rfl
theorem sum_snoc (l : List Nat) (x : Nat) : (l ++ [x]).sum = l.sum + x := by simp [List.sum_append]
theorem LyF.step {ns n1 n2 : List Node} {at_ k a1 : Nat} {ps : List (List It)} {ks : List Int} {q : List It} {r : Int} (h : LyF ns at_ k ps n1 ks) (ha : a1 = at_ + (ps.map (cnt k)).sum) (g : LyH n1 a1 k q n2 r) : LyF ns at_ k (ps ++ [q]) n2 (ks ++ [r]) := by
  subst ha
  have es : ((ps ++ [q]).map (cnt k)).sum = (ps.map (cnt k)).sum + cnt k q := by rw [List.map_append]; exact sum_snoc _ _
  have hl := h.len
  refine ⟨by rw [List.length_append, List.length_append, h.kl]; rfl, by rw [g.len, h.len], fun i hi => ?_, fun h5 A hA j hj => ?_, fun i y h1 h2 hy => ?_, fun z hz => ?_⟩
  · rw [es] at hi
    rw [g.same i (by omega), h.same i (by omega)]
  · rw [es] at hA
    rw [List.length_append] at hj
    by_cases e : j < ps.length
    · rw [(getD_snoc h.kl).1 e, (getD_snoc rfl).1 e]
      exact h.isH h5 A (fun i h1 h2 => by rw [hA i h1 (by omega), g.same i (by omega)]) j e
    · obtain rfl : j = ps.length := by simp at hj; omega
      rw [(getD_snoc (j := 0) h.kl).2, (getD_snoc (j := 0) rfl).2]
      exact g.isH (by rw [hl]; exact h5) A (fun i h1 h2 => hA i (by omega) (by omega))
  · rw [es] at h2
    by_cases e : i < at_ + (ps.map (cnt k)).sum
    · rw [g.same i (by omega)] at hy
      exact (h.good i y h1 e hy).mono fun z hz => by rw [List.flatten_append]; exact List.mem_append_left _ hz
    · have := g.good i y (by omega) (by omega) hy
      rw [hl] at this
      exact this.mono fun z hz => by rw [List.flatten_append]; exact List.mem_append_right _ (by simpa using hz)
  · rcases List.mem_append.1 hz with hz | hz
    · exact h.ref z hz
    · rw [List.mem_singleton.1 hz, ← hl]; exact g.ref
theorem ly_nil (ns : List Node) (at_ k : Nat) : LyH ns at_ k [] ns 0 :=
  ⟨rfl, fun _ _ => rfl, fun _ _ _ => isH_nil.2 rfl, fun i y h1 h2 => absurd h2 (by rw [cnt_nil]; omega), .inl rfl⟩
theorem get_placed {A : Ar} {ns : List Node} {a : Nat} {y : Node} (h5 : ns.length ≤ 512) (ha : a < ns.length) (hA : A.nodes[a]? = some y) (hk : ¬ y.kind = 0) (hg : y.gen = 0) : getA A ((a : Int) + 1) = some y := by
  have hp := place_of_at (a := a) (by omega)
  have hpp : (placeR ((a : Int) + 1)).toNat = a := by rw [hp.1]; exact Int.toNat_natCast _
  rw [getA_at (x := y) (by rw [hp.1]; omega) (by rw [hpp]; exact hA), if_neg]
  rintro (e | e)
  · exact hk e
  · exact e (hg.trans hp.2.1.symm)
theorem ly_leaf {ns : List Node} {at_ k : Nat} {x : It} (h : at_ < ns.length) : LyH ns at_ k [x] (ns.set at_ (hN 3 0 x.k x.v 0 [])) ((at_ : Int) + 1) := by
  have hc : cnt k [x] = 1 := cnt_few (by simp)
  refine ⟨List.length_set, fun i hi => ?_, fun h5 A hA => ?_, fun i y h1 h2 hy => ?_, .inr ⟨at_, rfl, h⟩⟩
  · rw [hc] at hi
    exact List.getElem?_set_ne (by omega)
  · rw [hc] at hA
    have h0 := hA at_ (Nat.le_refl _) (by omega)
    rw [List.getElem?_set_self h] at h0
    exact isH_one.2 ⟨0, get_placed h5 h h0 (show ¬ (3 : Int) = 0 by decide) rfl⟩
  · rw [hc] at h2
    obtain rfl : i = at_ := by omega
    rw [List.getElem?_set_self h] at hy
    cases hy
    refine ⟨(show ¬ (3 : Int) = 0 by decide), fun _ => rfl, fun hz => ?_⟩
    have := hz x (by simp)
    exact hN_ok (by unfold I64; omega) z64 this.1 this.2 z64 (fun k h => by cases h)
theorem getD_ref {n : Nat} {ks : List Int} (h : ∀ z ∈ ks, refOk n z) (i : Nat) : refOk n (ks.getD i 0) := by
  rw [List.getD_eq_getElem?_getD]
  cases e : ks[i]? with
  | none => exact .inl rfl
  | some z => exact h z (List.mem_of_getElem? e)
theorem ly_node {ns n1 : List Node} {at_ k k1 a1 : Nat} {ps : List (List It)} {ks : List Int} {l : List It} {kd : Int} (h : LyF ns at_ k1 ps n1 ks) (ha : a1 = at_ + (ps.map (cnt k1)).sum) (hlt : a1 < ns.length) (hns : ns.length ≤ 1000000) (hll : l.length ≤ 1000000) (hkd : 1 ≤ kd ∧ kd ≤ 100) (hc : cnt k l = (ps.map (cnt k1)).sum + 1) (hp : ∀ z ∈ ps.flatten, z ∈ l)
    (hi : ∀ A : Ar, getA A ((a1 : Int) + 1) = some (hN kd 0 0 0 l.length ks) → (∀ j, j < ps.length → IsH A k1 (ks.getD j 0) (ps.getD j [])) → IsH A k ((a1 : Int) + 1) l) : LyH ns at_ k l (n1.set a1 (hN kd 0 0 0 l.length ks)) ((a1 : Int) + 1) := by
  have hl := h.len
  refine ⟨by rw [List.length_set, hl], fun i hi => ?_, fun h5 A hA => ?_, fun i y h1 h2 hy => ?_, .inr ⟨a1, rfl, hlt⟩⟩
  · rw [hc] at hi
    rw [List.getElem?_set_ne (by omega), h.same i (by omega)]
  · rw [hc] at hA
    have h0 := hA a1 (by omega) (by omega)
    rw [List.getElem?_set_self (by omega)] at h0
    exact hi A (get_placed h5 hlt h0 (show ¬ kd = 0 by omega) rfl) (h.isH h5 A fun i h1 h2 => by rw [hA i h1 (by omega), List.getElem?_set_ne (by omega)])
  · rw [hc] at h2
    by_cases e : i = a1
    · subst e
      rw [List.getElem?_set_self (by omega)] at hy
      cases hy
      refine ⟨(show ¬ kd = 0 by omega), fun h5 => (well_iff _).2 ⟨⟨Int.le_refl 0, (show (0 : Int) ≤ 1048576 by omega), Int.le_refl 0, (show (0 : Int) ≤ 9 by omega), Int.le_refl 0, (show (0 : Int) ≤ 9 by omega)⟩, ?_⟩, fun _ => ?_⟩
      · have q := fun i => (getD_ref h.ref i).right h5
        simp only [hN, Node.kids, List.all_cons, List.all_nil, q, Bool.and_true]
      · exact hN_ok (by unfold I64; omega) z64 z64 z64 (by unfold I64; omega) (fun z hz => (h.ref z hz).u64 hns)
    · rw [List.getElem?_set_ne (fun q => e q.symm)] at hy
      exact (h.good i y h1 (by omega) hy).mono hp
def partsT (k : Nat) (l : List It) (i : Nat) : List (List It) := (List.range i).map fun j => ofL (9 - k) j l
theorem partsT_succ (k : Nat) (l : List It) (i : Nat) : partsT k l (i + 1) = partsT k l i ++ [ofL (9 - k) i l] := by unfold partsT; rw [List.range_succ, List.map_append]; rfl
theorem partsT_len (k : Nat) (l : List It) (i : Nat) : (partsT k l i).length = i := by simp [partsT]
theorem partsT_get (k : Nat) (l : List It) {i j : Nat} (h : j < i) : (partsT k l i).getD j [] = ofL (9 - k) j l := by
  unfold partsT; rw [List.getD_eq_getElem?_getD, List.getElem?_map, List.getElem?_range h]; rfl
theorem partsT_sum {k : Nat} {l : List It} (h : 2 ≤ l.length) : cnt (k + 1) l = ((partsT k l 4).map (cnt k)).sum + 1 := by
  rw [cnt_s h]; simp [partsT, List.range_succ, List.sum_append]; omega
theorem partsT_le {k : Nat} {l : List It} (i : Nat) (hi : i < 4) : ((partsT k l i).map (cnt k)).sum + cnt k (ofL (9 - k) i l) ≤ ((partsT k l 4).map (cnt k)).sum := by
  rcases (show i = 0 ∨ i = 1 ∨ i = 2 ∨ i = 3 by omega) with rfl | rfl | rfl | rfl <;> simp [partsT, List.range_succ, List.sum_append] <;> omega
theorem partsT_mem {k : Nat} {l : List It} : ∀ i, ∀ z ∈ (partsT k l i).flatten, z ∈ l := by
  intro i z hz
  obtain ⟨q, h1, h2⟩ := List.mem_flatten.1 hz
  unfold partsT at h1
  obtain ⟨j, _, rfl⟩ := List.mem_map.1 h1
  exact (ofL_mem.1 h2).1
theorem ly_trie {ns n1 : List Node} {at_ k a1 : Nat} {ks : List Int} {l : List It} (h : LyF ns at_ k (partsT k l 4) n1 ks) (ha : a1 = at_ + ((partsT k l 4).map (cnt k)).sum) (hlt : a1 < ns.length) (hns : ns.length ≤ 1000000) (hll : l.length ≤ 1000000) (hl : 2 ≤ l.length) : LyH ns at_ (k + 1) l (n1.set a1 (hN 2 0 0 0 l.length ks)) ((a1 : Int) + 1) :=
  ly_node h ha hlt hns hll ⟨by decide, by decide⟩ (partsT_sum hl) (partsT_mem 4) fun A hg hj => (isH_trie hl).2 ⟨0, ks, by rw [h.kl, partsT_len], hg, fun i hi => by
    have := hj i (by rw [partsT_len]; exact hi)
    rwa [partsT_get k l hi] at this⟩
def partsC (m : List It) (i : Nat) : List (List It) := (m.take i).map fun x => [x]
theorem partsC_succ {m : List It} {i : Nat} {x : It} (h : m[i]? = some x) : partsC m (i + 1) = partsC m i ++ [[x]] := by unfold partsC; rw [List.take_add_one, h, List.map_append]; rfl
theorem partsC_len {m : List It} {i : Nat} (h : i ≤ m.length) : (partsC m i).length = i := by simp [partsC]; omega
theorem partsC_get {m : List It} {i j : Nat} {x : It} (h : m[j]? = some x) (hj : j < i) : (partsC m i).getD j [] = [x] := by
  unfold partsC; rw [List.getD_eq_getElem?_getD, List.getElem?_map, List.getElem?_take_of_lt hj, h]; rfl
theorem partsC_sum {m : List It} {i : Nat} (h : i ≤ m.length) : ((partsC m i).map (cnt 0)).sum = i := by
  have e : (partsC m i).map (cnt 0) = List.replicate i 1 := by
    unfold partsC
    rw [List.map_map]
    apply List.ext_getElem
    · simp; omega
    · intro j h1 h2; simp [cnt_few]
  rw [e]; simp
theorem partsC_mem {m l : List It} (hp : m.Perm l) (i : Nat) : ∀ z ∈ (partsC m i).flatten, z ∈ l := by
  intro z hz
  obtain ⟨q, h1, h2⟩ := List.mem_flatten.1 hz
  unfold partsC at h1
  obtain ⟨x, hx, rfl⟩ := List.mem_map.1 h1
  rw [List.mem_singleton.1 h2]
  exact hp.mem_iff.1 (List.mem_of_mem_take hx)
theorem ly_clash {ns n1 : List Node} {at_ a1 : Nat} {ks : List Int} {l m : List It} (hp : m.Perm l) (hs : Srt m) (h9 : l.length ≤ 9) (h : LyF ns at_ 0 (partsC m l.length) n1 ks) (ha : a1 = at_ + l.length) (hlt : a1 < ns.length) (hns : ns.length ≤ 1000000) (hl : 2 ≤ l.length) : LyH ns at_ 0 l (n1.set a1 (hN 4 0 0 0 l.length ks)) ((a1 : Int) + 1) := by
  have hml := hp.length_eq
  have hsum : ((partsC m l.length).map (cnt 0)).sum = l.length := partsC_sum (by omega)
  refine ly_node h (by rw [hsum]; exact ha) hlt hns (by omega) ⟨by decide, by decide⟩ (by rw [hsum, cnt_0 hl]; omega) (partsC_mem hp _) fun A hg hj => (isH_clash hl).2 ⟨0, ks, m, hp, hs, by omega, by rw [h.kl, partsC_len (by omega)]; omega, by rw [hml]; exact hg, fun i x hx => ?_⟩
  have hi := lt_of_get hx
  have := hj i (by rw [partsC_len (by omega)]; omega)
  rw [partsC_get hx (by omega)] at this
  exact isH_one.1 this
theorem kids_put (kd g s : Int) (ks : List Int) (z : Int) {j : Nat} (hj : j = ks.length) (h : j < 9) : splice (hN kd g 0 0 s ks).cells (5 + (j : Int).toNat * 1) [u6 z] = (hN kd g 0 0 s (ks ++ [z])).cells := by
  subst hj
  rcases ks with _|⟨a, _|⟨b, _|⟨c, _|⟨d, _|⟨e, _|⟨f, _|⟨g, _|⟨i, _|⟨j, ks⟩⟩⟩⟩⟩⟩⟩⟩⟩
  all_goals first | rfl | (simp at h; omega)
structure BldH (size : Nat) (l : List It) (A : Ar) (r : Int) : Prop where
  len : A.nodes.length = size
  free : A.free.length = size - cnt 10 l
  ok : 1 ≤ size → size ≤ 512 → AOk A
  isH : size ≤ 512 → IsH A 10 r l
  nok : (∀ z ∈ l, z.ok) → ∀ y ∈ A.nodes, y.ok
  u : U64 r
theorem bld_ok {size : Nat} {l : List It} {ns : List Node} {r : Int} (h : cnt 10 l ≤ size) (hsz : size ≤ 1000000) (o : LyH (List.replicate size (bareN 0)) 0 10 l ns r) : BldH size l ⟨ns, freeB size (size - cnt 10 l)⟩ r := by
  have hrep : (List.replicate size (bareN 0)).length = size := List.length_replicate
  have hl : ns.length = size := by rw [o.len, hrep]
  have hout : ∀ (i : Nat) y, cnt 10 l ≤ i → ns[i]? = some y → y = bareN 0 := fun i y hi hy => by
    rw [o.same i (by omega)] at hy
    exact (List.mem_replicate.1 (List.mem_of_getElem? hy)).2
  have hin : ∀ (i : Nat) y, i < cnt 10 l → ns[i]? = some y → GoodH size l y := fun i y hi hy => by
    have := o.good i y (by omega) (by omega) hy
    rwa [hrep] at this
  refine ⟨hl, freeB_len _ _, fun h1 h2 => ⟨by show 1 ≤ ns.length; omega, by show ns.length ≤ 512; omega, ?_, ?_, freeB_nodup _ _, ?_, ?_, ?_⟩, fun h5 => o.isH (by rw [hrep]; exact h5) _ (fun i _ _ => rfl), ?_, (by have := o.ref; rw [hrep] at this; exact this.u64 hsz)⟩
  · show (freeB _ _).length ≤ ns.length
    rw [freeB_len]; omega
  · intro x hx; have := freeB_mem.1 hx; show 0 ≤ x ∧ x < (ns.length : Int); omega
  · intro x hx
    obtain ⟨i, hi⟩ := List.getElem?_of_mem hx
    by_cases q : i < cnt 10 l
    · exact (hin i x q hi).2.1 h2
    · rw [hout i x (by omega) hi]; decide
  · intro i x hx
    have hi := lt_of_get hx
    simp only [] at hi
    by_cases q : i < cnt 10 l
    · have := (hin i x q hx).1
      constructor
      · intro e; exact absurd e this
      · intro hm; have := freeB_mem.1 hm; omega
    · rw [hout i x (by omega) hx]
      exact ⟨fun _ => freeB_mem.2 (by omega), fun _ => rfl⟩
  · intro i x hx hm
    have hi := lt_of_get hx
    have := freeB_mem.1 hm
    simp only [] at hi
    rw [hout i x (by omega) hx]; rfl
  · intro hok y hy
    obtain ⟨i, hi⟩ := List.getElem?_of_mem hy
    by_cases q : i < cnt 10 l
    · exact (hin i y q hi).2.2 hok
    · rw [hout i y (by omega) hi]; exact bareN_ok z64
end Go.Proofs.Ytbfjobmebkhblaa
set_option linter.unusedVariables false
set_option linter.unusedSimpArgs false
namespace Go.Proofs.Ytbfjobmebkhblaa
open Go Go.XL
def tyC (bN nn cN : Nat) (at_ r : Int) : List Value := [.slice (some ⟨bN, 0, none⟩) nn cN, .slice none 0 0, .int .i64 at_, .int .u64 r]
abbrev nodeL (ns : List Node) : List Value := (ns.map Node.cells).flatten
/-- what Lay answers -/
def LayA (bN nn cN : Nat) (ns : List Node) (at_ k : Nat) (l : List It) (w : World) (v : Value) (w' : World) : Prop :=
  ∃ ns' r, v = .agg (tyC bN nn cN ((at_ + cnt k l : Nat) : Int) r).toArray ∧ LyH ns at_ k l ns' r ∧ Agr (· = bN) w w' ∧ Has w' bN (nodeL ns') 97
theorem c_layFew (bN cN nn k : Nat) (lv : Int) (ns : List Node) (at_ : Nat) (r0 : Int) (l : List It) (M : Nat → Prop) (a : Option Addr) (c m : Nat) (w : World) (hm : m = l.length) (hl : l.length ≤ 1) (hat : at_ + l.length ≤ ns.length) (hnn : ns.length = nn) (hn6 : nn ≤ 1000000) (hI : Ft M (fun u => Sl u a 2 (l.map It.cells)) w) (dN : ∀ k, M k → k ≠ bN) (hbN : Has w bN (nodeL ns) 97) :
    FC Try.prog 45 [.agg (tyC bN nn cN at_ r0).toArray, .slice a m c, .int .i64 lv] w (LayA bN nn cN ns at_ k l w) := by
  subst hm
  have hck : cnt k l = l.length := cnt_few hl
  refine FC.intro Try.func45 rfl Try.ntmps45 rfl ?_
  have G : Agr (· = bN) w w := Agr.refl _ _
  refine RC.seq ?_
  refine RC.region rfl ?_
  refine RL.box rfl rfl rfl (fun b_3 w_3 e_3 z_3 hb_3 s_3 => ?_)
  have nN__3 := hbN.ne e_3
  have d_hI_b_3 := hI.neNew e_3
  have geG_3 := agLe G e_3
  have G := G.trans s_3.agr
  have hbN := hbN.sub s_3
  have hI := hI.sub s_3
  have hb_3 : Has w_3 b_3 (tyC bN nn cN at_ r0) _ := hb_3
  refine RL.alloc ze80 rfl rfl (fun b_6 w_6 e_6 z_6 hb_6 s_6 => ?_)
  have nN__6 := hbN.ne e_6
  have n_3__6 := hb_3.ne e_6
  have d_hI_b_6 := hI.neNew e_6
  have geG_6 := agLe G e_6
  have G := G.trans s_6.agr
  have hbN := hbN.sub s_6
  have hI := hI.sub s_6
  have hb_3 := hb_3.sub s_6
  refine RL.nil (RC.back ?_)
  refine RC.seq ?_
  refine RC.region rfl ?_
  refine RL.ev (.field0 fo80_2 rfl) rfl rfl ?_
  refine RL.store sh36 rfl rfl rfl hb_3 (by exact Nat.le_of_ble_eq_true rfl) (by rfl) rfl (fun w1 z1 hb_3 a1 => ?_)
  have G := agNew G a1 geG_3
  have hbN := hbN.upd a1 nN__3
  have hI := hI.updD a1 d_hI_b_3
  have hb_6 := hb_6.upd a1 n_3__6.symm
  have hb_3 : Has w1 b_3 (tyC bN nn cN at_ 0) _ := hb_3
  refine RL.nil (RC.back ?_)
  refine RC.seq ?_
  refine RC.seq ?_
  refine RC.region rfl ?_
  refine RL.ev (.move rfl) rfl rfl ?_
  refine RL.ev (.len sl26 rfl) rfl rfl ?_
  refine RL.ev (.bin rfl rfl rfl) rfl rfl ?_
  refine RL.nil (RC.back ?_)
  refine RC.cond_dec rfl (fun h2 => ?_) (fun h2 => ?_)
  ·
    obtain rfl : l = [] := List.eq_nil_of_length_eq_zero (by have := h2; omega)
    refine RC.seq ?_
    refine RC.region rfl ?_
    refine RL.ev (.loadR (tyC bN nn cN at_ 0) sh80 rfl hb_3.row rfl) rfl rfl ?_
    refine RL.store sh80 rfl rfl rfl hb_6 (by exact Nat.le_of_ble_eq_true rfl) (by rfl) rfl (fun w3 z3 hb_6 a3 => ?_)
    have G := agNew G a3 geG_6
    have hbN := hbN.upd a3 nN__6
    have hI := hI.updD a3 d_hI_b_6
    have hb_3 := hb_3.upd a3 n_3__6
    have hb_6 : Has w3 b_6 (tyC bN nn cN at_ 0) _ := hb_6.now (by kernel_rfl)
    refine RL.nil (RC.back ?_)
    refine RC.done (rs := [.cell 6 80]) (vs := [_]) rfl rfl ⟨⟨_, rfl, .inr ⟨tyC bN nn cN at_ 0, sh80, hb_6.row, rfl⟩⟩, trivial⟩ ?_
    -- end 1
    exact ⟨ns, 0, (by rw [hck]; rfl), ly_nil _ _ _, G, hbN⟩
  ·
    have q0 : ¬ l.length = 0 := (by have := h2; omega)
    refine RC.skip (RC.back ?_)
    refine RC.seq ?_
    refine RC.seq ?_
    refine RC.region rfl ?_
    refine RL.ev (.move rfl) rfl rfl ?_
    refine RL.ev (.len sl26 rfl) rfl rfl ?_
    refine RL.ev (.bin rfl rfl rfl) rfl rfl ?_
    refine RL.nil (RC.back ?_)
    refine RC.cond_dec rfl (fun h4 => ?_) (fun h4 => ?_)
    ·
      obtain ⟨x, rfl⟩ := List.length_eq_one_iff.1 (show l.length = 1 by have := h4; omega)
      refine RC.seq ?_
      refine RC.drawD (fun k => k = bN) [15] w1.heap.size 16 rfl rfl mxo (fun w5 s6 => ?_)
      have ltD_bN := hbN.lt
      have ltD_hI := fun k hk => (hI.ge k hk).2
      have ltD_b_3 := hb_3.lt
      have ltD_b_6 := hb_6.lt
      have szD := Nat.le_refl w1.heap.size
      have G := G.trans s6.agr
      have hbN := hbN.sub s6
      have hI := hI.sub s6
      have hb_3 := hb_3.sub s6
      have hb_6 := hb_6.sub s6
      have szD := Nat.le_trans szD s6.size
      refine RD.take 0 rfl (by kernel_rfl) (by kernel_rfl) (by kernel_rfl) (fun w' s' => .field0 fo80_0 rfl) rfl rfl ?_
      refine RD.take 1 rfl (by kernel_rfl) (by kernel_rfl) (by kernel_rfl) (fun w' s' => .field0 fo34_0 rfl) rfl rfl ?_
      refine RD.take 2 rfl (by kernel_rfl) (by kernel_rfl) (by kernel_rfl) (fun w' s' => .load1 sh31 rfl ((hb_3.step s' (fun e => e.elim (fun e => nN__3.symm e) (fun e => Nat.not_le.2 ltD_b_3 e))).cell rfl)) rfl rfl ?_
      refine RD.take 3 rfl (by kernel_rfl) (by kernel_rfl) (by kernel_rfl) (fun w' s' => .field0 fo80_1 rfl) rfl rfl ?_
      refine RD.take 4 rfl (by kernel_rfl) (by kernel_rfl) (by kernel_rfl) (fun w' s' => .load1 sh3 rfl ((hb_3.step s' (fun e => e.elim (fun e => nN__3.symm e) (fun e => Nat.not_le.2 ltD_b_3 e))).cell rfl)) rfl rfl ?_
      refine RD.take 5 rfl (by kernel_rfl) (by kernel_rfl) (by kernel_rfl) (fun w' s' => .move rfl) rfl rfl ?_
      refine RD.take 6 rfl (by kernel_rfl) (by kernel_rfl) (by kernel_rfl) (fun w' s' => .indexS sl26 rfl rfl (by omega) (hI.now.is (i := 0) (by simp only [List.length_map, List.length_cons, List.length_nil]; omega))) rfl rfl ?_
      refine RD.take 7 rfl (by kernel_rfl) (by kernel_rfl) (by kernel_rfl) (fun w' s' => .fieldA fo29_0 rfl) rfl rfl ?_
      refine RD.take 8 rfl (by kernel_rfl) (by kernel_rfl) (by kernel_rfl) (fun w' s' => .load1 sh2 rfl ((hI.step s' (fun k hk e => e.elim (fun e => dN k hk e) (Nat.not_le.2 (ltD_hI k hk)))).now.cell (enc := It.cells) (j := 0) (x := x) (i := 0) rfl rfl)) rfl rfl ?_
      refine RD.take 9 rfl (by kernel_rfl) (by kernel_rfl) (by kernel_rfl) (fun w' s' => .move rfl) rfl rfl ?_
      refine RD.take 10 rfl (by kernel_rfl) (by kernel_rfl) (by kernel_rfl) (fun w' s' => .indexS sl26 rfl rfl (by omega) (hI.now.is (i := 0) (by simp only [List.length_map, List.length_cons, List.length_nil]; omega))) rfl rfl ?_
      refine RD.take 11 rfl (by kernel_rfl) (by kernel_rfl) (by kernel_rfl) (fun w' s' => .fieldA fo29_1 rfl) rfl rfl ?_
      refine RD.take 12 rfl (by kernel_rfl) (by kernel_rfl) (by kernel_rfl) (fun w' s' => .load1 sh2 rfl ((hI.step s' (fun k hk e => e.elim (fun e => dN k hk e) (Nat.not_le.2 (ltD_hI k hk)))).now.cell (enc := It.cells) (j := 1) (x := x) (i := 0) rfl rfl)) rfl rfl ?_
      refine RD.take 13 rfl (by kernel_rfl) (by kernel_rfl) (by kernel_rfl) (fun w' s' => .as (v' := .agg (hN 3 0 x.k x.v 0 []).cells.toArray) (.buildS ze97 pl97 rfl rfl) (by rfl)) rfl rfl ?_
      refine RD.take 14 rfl (by kernel_rfl) (by kernel_rfl) (by kernel_rfl) (fun w' s' => .indexO sl31 rfl rfl (by omega)) rfl rfl ?_
      refine RD.all [15] (by kernel_rfl) rfl (RDs.cons rfl ?_ (RDs.nil))
      refine RL.store sh97 rfl rfl rfl hbN (by rw [flat_len (sz := 16) _ (node_rows _), List.length_map]; show 0 + at_ * 16 + 16 ≤ _; omega) (by rfl) rfl (fun w7 z7 hbN a7 => ?_)
      have G := G.trans a7
      have hI := hI.updD a7 dN
      have hb_3 := hb_3.upd a7 nN__3.symm
      have hb_6 := hb_6.upd a7 nN__6.symm
      have szD := Nat.le_trans szD a7.size
      have hbN : Has w7 bN (nodeL (ns.set at_ (hN 3 0 x.k x.v 0 []))) 97 := by rw [nodeL, List.map_set]; exact row_set0 (sz := 16) (i := at_) (by rw [Nat.zero_add] at hbN; exact hbN) (node_rows _) (by rw [List.length_map]; omega) rfl
      refine RD.backW rfl (a7.mono fun k _ e => e ▸ (.inl (rfl))) ?_
      refine RD.done (by kernel_rfl) (RC.back ?_)
      refine RC.seq ?_
      refine RC.region rfl ?_
      refine RL.ev (.field0 fo80_1 rfl) rfl rfl ?_
      refine RL.ev (.load1 sh3 rfl (hb_3.cell rfl)) rfl rfl ?_
      refine RL.ev (.as (.bin rfl rfl rfl) (wi64 (y := ((at_ + 1 : Nat) : Int)) (by omega) (by omega))) rfl rfl ?_
      refine RL.ev (.field0 fo80_1 rfl) rfl rfl ?_
      refine RL.store sh3 rfl rfl rfl hb_3 (by exact Nat.le_of_ble_eq_true rfl) (by rfl) rfl (fun w8 z8 hb_3 a8 => ?_)
      have G := agNew G a8 geG_3
      have hbN := hbN.upd a8 nN__3
      have hI := hI.updD a8 d_hI_b_3
      have hb_6 := hb_6.upd a8 n_3__6.symm
      have hb_3 : Has w8 b_3 (tyC bN nn cN ((at_ + 1 : Nat) : Int) 0) _ := hb_3
      refine RL.nil (RC.back ?_)
      refine RC.seq ?_
      refine RC.region rfl ?_
      refine RL.ev (.field0 fo80_1 rfl) rfl rfl ?_
      refine RL.ev (.load1 sh3 rfl (hb_3.cell rfl)) rfl rfl ?_
      refine RL.ev (.as (.conv i3 i36 rfl) (wu64 (y := (at_ : Int) + 1) (by omega) (by omega))) rfl rfl ?_
      refine RL.ev (.field0 fo80_2 rfl) rfl rfl ?_
      refine RL.store sh36 rfl rfl rfl hb_3 (by exact Nat.le_of_ble_eq_true rfl) (by rfl) rfl (fun w9 z9 hb_3 a9 => ?_)
      have G := agNew G a9 geG_3
      have hbN := hbN.upd a9 nN__3
      have hI := hI.updD a9 d_hI_b_3
      have hb_6 := hb_6.upd a9 n_3__6.symm
      have hb_3 : Has w9 b_3 (tyC bN nn cN ((at_ + 1 : Nat) : Int) ((at_ : Int) + 1)) _ := hb_3
      refine RL.nil (RC.back ?_)
      refine RC.seq ?_
      refine RC.region rfl ?_
      refine RL.ev (.loadR (tyC bN nn cN ((at_ + 1 : Nat) : Int) ((at_ : Int) + 1)) sh80 rfl hb_3.row rfl) rfl rfl ?_
      refine RL.store sh80 rfl rfl rfl hb_6 (by exact Nat.le_of_ble_eq_true rfl) (by rfl) rfl (fun w10 z10 hb_6 a10 => ?_)
      have G := agNew G a10 geG_6
      have hbN := hbN.upd a10 nN__6
      have hI := hI.updD a10 d_hI_b_6
      have hb_3 := hb_3.upd a10 n_3__6
      have hb_6 : Has w10 b_6 (tyC bN nn cN ((at_ + 1 : Nat) : Int) ((at_ : Int) + 1)) _ := hb_6.now (by kernel_rfl)
      refine RL.nil (RC.back ?_)
      refine RC.done (rs := [.cell 6 80]) (vs := [_]) rfl rfl ⟨⟨_, rfl, .inr ⟨tyC bN nn cN ((at_ + 1 : Nat) : Int) ((at_ : Int) + 1), sh80, hb_6.row, rfl⟩⟩, trivial⟩ ?_
      -- end 2
      exact ⟨_, (at_ : Int) + 1, (by rw [hck]; rfl), ly_leaf (by omega), G, hbN⟩
    ·
      exact absurd (show l.length = 1 by omega) (by have := h4; omega)
theorem drop_take1 {l : List It} {n : Nat} {x : It} (h : l[n]? = some x) : (l.drop n).take 1 = [x] := by
  rw [List.take_one, List.head?_drop, h]; rfl
/-- the rounds over keys of one hash -/
structure LcS (w0 : World) (bN cN nn b3 b6 b7 : Nat) (ns : List Node) (at_ : Nat) (l ms : List It) (i : Nat) (rest : List It) (n1 : List Node) (ks : List Int) (r : Int) (a : Option Addr) (m c : Nat) (w : World) : Prop where
  hi : i ≤ l.length
  rp : rest.Perm (ms.drop i)
  F : LyF ns at_ 0 (partsC ms i) n1 ks
  o : Ows w0.heap.size w 29 2 (.slice a m c) (rest.map It.cells)
  h3 : Has w b3 (tyC bN nn cN ((at_ + i : Nat) : Int) r) 80
  h6 : Has w b6 [.slice none 0 0, .slice none 0 0, .int .i64 0, .int .u64 0] 80
  h7 : Has w b7 (hN 4 0 0 0 l.length ks).cells 97
  hN : Has w bN (nodeL n1) 97
  d : ∀ k, ob (.slice a m c) = some k → k ≠ b3 ∧ k ≠ b6 ∧ k ≠ b7 ∧ k ≠ bN
  G : Agr (· = bN) w0 w
set_option maxHeartbeats 1000000 in
theorem c_layC (bN cN nn : Nat) (ns : List Node) (at_ : Nat) (r0 : Int) (l : List It) (hap : Ap l) (M : Nat → Prop) (a : Option Addr) (c m : Nat) (w : World) (hm : m = l.length) (hl2 : 2 ≤ l.length) (hl9 : l.length ≤ 9) (hat : at_ + cnt 0 l ≤ ns.length) (hnn : ns.length = nn) (hn6 : nn ≤ 1000000) (hI : Ft M (fun u => Sl u a 2 (l.map It.cells)) w) (dN : ∀ k, M k → k ≠ bN) (hbN : Has w bN (nodeL ns) 97) :
    FC Try.prog 45 [.agg (tyC bN nn cN at_ r0).toArray, .slice a m c, .int .i64 10] w (LayA bN nn cN ns at_ 0 l w) := by
  subst hm
  have hck : cnt 0 l = 1 + l.length := cnt_0 hl2
  obtain ⟨ms, hmp, hms⟩ := srt_exists hap
  have hmpl := hmp.length_eq
  refine FC.intro Try.func45 rfl Try.ntmps45 rfl ?_
  have G : Agr (· = bN) w w := Agr.refl _ _
  refine RC.seq ?_
  refine RC.region rfl ?_
  refine RL.box rfl rfl rfl (fun b_3 w_3 e_3 z_3 hb_3 s_3 => ?_)
  have nN__3 := hbN.ne e_3
  have d_hI_b_3 := hI.neNew e_3
  have geG_3 := agLe G e_3
  have G := G.trans s_3.agr
  have hbN := hbN.sub s_3
  have hI := hI.sub s_3
  have hb_3 : Has w_3 b_3 (tyC bN nn cN at_ r0) _ := hb_3
  refine RL.alloc ze80 rfl rfl (fun b_6 w_6 e_6 z_6 hb_6 s_6 => ?_)
  have nN__6 := hbN.ne e_6
  have n_3__6 := hb_3.ne e_6
  have d_hI_b_6 := hI.neNew e_6
  have geG_6 := agLe G e_6
  have G := G.trans s_6.agr
  have hbN := hbN.sub s_6
  have hI := hI.sub s_6
  have hb_3 := hb_3.sub s_6
  refine RL.nil (RC.back ?_)
  refine RC.seq ?_
  refine RC.region rfl ?_
  refine RL.ev (.field0 fo80_2 rfl) rfl rfl ?_
  refine RL.store sh36 rfl rfl rfl hb_3 (by exact Nat.le_of_ble_eq_true rfl) (by rfl) rfl (fun w1 z1 hb_3 a1 => ?_)
  have G := agNew G a1 geG_3
  have hbN := hbN.upd a1 nN__3
  have hI := hI.updD a1 d_hI_b_3
  have hb_6 := hb_6.upd a1 n_3__6.symm
  have hb_3 : Has w1 b_3 (tyC bN nn cN at_ 0) _ := hb_3
  refine RL.nil (RC.back ?_)
  refine RC.seq ?_
  refine RC.seq ?_
  refine RC.region rfl ?_
  refine RL.ev (.move rfl) rfl rfl ?_
  refine RL.ev (.len sl26 rfl) rfl rfl ?_
  refine RL.ev (.bin rfl rfl rfl) rfl rfl ?_
  refine RL.nil (RC.back ?_)
  refine RC.cond_dec rfl (fun h2 => ?_) (fun h2 => ?_)
  ·
    exact absurd (show l.length = 0 by have := h2; omega) (by omega)
  ·
    refine RC.skip (RC.back ?_)
    refine RC.seq ?_
    refine RC.seq ?_
    refine RC.region rfl ?_
    refine RL.ev (.move rfl) rfl rfl ?_
    refine RL.ev (.len sl26 rfl) rfl rfl ?_
    refine RL.ev (.bin rfl rfl rfl) rfl rfl ?_
    refine RL.nil (RC.back ?_)
    refine RC.cond_dec rfl (fun h3 => ?_) (fun h3 => ?_)
    ·
      exact absurd (show l.length = 1 by have := h3; omega) (by omega)
    ·
      refine RC.skip (RC.back ?_)
      refine RC.seq ?_
      refine RC.region rfl ?_
      refine RL.ev (.move rfl) rfl rfl ?_
      refine RL.ev (.len sl26 rfl) rfl rfl ?_
      refine RL.ev (.as (v' := .agg (hN 2 0 0 0 l.length []).cells.toArray) (.buildS ze97 pl97 rfl rfl) (by rfl)) rfl rfl ?_
      refine RL.alloc ze97 rfl rfl (fun b_7 w_7 e_7 z_7 hb_7 s_7 => ?_)
      have nN__7 := hbN.ne e_7
      have n_3__7 := hb_3.ne e_7
      have n_6__7 := hb_6.ne e_7
      have d_hI_b_7 := hI.neNew e_7
      have geG_7 := agLe G e_7
      have G := G.trans s_7.agr
      have hbN := hbN.sub s_7
      have hI := hI.sub s_7
      have hb_3 := hb_3.sub s_7
      have hb_6 := hb_6.sub s_7
      refine RL.store sh97 rfl rfl rfl hb_7 (by exact Nat.le_of_ble_eq_true rfl) (by rfl) rfl (fun w4 z4 hb_7 a4 => ?_)
      have G := agNew G a4 geG_7
      have hbN := hbN.upd a4 nN__7
      have hI := hI.updD a4 d_hI_b_7
      have hb_3 := hb_3.upd a4 n_3__7
      have hb_6 := hb_6.upd a4 n_6__7
      refine RL.nil (RC.back ?_)
      refine RC.seq ?_
      refine RC.seq ?_
      refine RC.region rfl ?_
      refine RL.ev (.move rfl) rfl rfl ?_
      refine RL.ev (.as (v' := .bool true) (.bin rfl rfl rfl) (congrArg Value.bool (decide_eq_true (by decide)))) rfl rfl ?_
      refine RL.nil (RC.back ?_)
      refine RC.cond_t rfl ?_
      refine RC.seq ?_
      refine RC.region rfl ?_
      refine RL.ev (.field0 fo97_0 rfl) rfl rfl ?_
      refine RL.store sh3 rfl rfl rfl hb_7 (by exact Nat.le_of_ble_eq_true rfl) (by rfl) rfl (fun w5 z5 hb_7 a5 => ?_)
      have G := agNew G a5 geG_7
      have hbN := hbN.upd a5 nN__7
      have hI := hI.updD a5 d_hI_b_7
      have hb_3 := hb_3.upd a5 n_3__7
      have hb_6 := hb_6.upd a5 n_6__7
      have hb_7 : Has w5 b_7 (hN 4 0 0 0 l.length []).cells 97 := hb_7
      refine RL.nil (RC.back ?_)
      refine RC.seq ?_
      refine RC.region rfl ?_
      refine RL.buildSlice0 sl26 rfl rfl (fun b_51 w_51 e_51 z_51 hb_51 s_51 => ?_)
      have nN__51 := hbN.ne e_51
      have n_3__51 := hb_3.ne e_51
      have n_6__51 := hb_6.ne e_51
      have n_7__51 := hb_7.ne e_51
      have d_hI_b_51 := hI.neNew e_51
      have geG_51 := agLe G e_51
      have G := G.trans s_51.agr
      have hbN := hbN.sub s_51
      have hI := hI.sub s_51
      have hb_3 := hb_3.sub s_51
      have hb_6 := hb_6.sub s_51
      have hb_7 := hb_7.sub s_51
      refine RL.ev (.assign rfl) rfl rfl ?_
      refine RL.nil (RC.back ?_)
      refine RC.seq ?_
      refine RC.region rfl ?_
      refine RL.ev (.move rfl) rfl rfl ?_
      refine RL.ev (.move rfl) rfl rfl ?_
      have szG_54 := G.size
      have ltbN_54 := hbN.lt
      have ltb_3_54 := hb_3.lt
      have ltb_6_54 := hb_6.lt
      have ltb_7_54 := hb_7.lt
      have ltb_51_54 := hb_51.lt
      refine RL.append2 (base := w.heap.size) (rows := []) (news := l.map It.cells) sl26 ze29 rfl rfl rfl rfl (.inl (Ows.lit0 hb_51 (by omega))) hI.now (by (try simp only [List.length_map]); first | done | rfl) (by intro r hr; obtain ⟨x, _, rfl⟩ := List.mem_map.1 hr; rfl) (by rw [List.all_eq_true]; intro r hr; obtain ⟨x, _, rfl⟩ := List.mem_map.1 hr; rfl) (by (try simp only [List.length_map, List.length_nil, List.length_append, List.length_cons]); omega) (by (try simp only [List.length_map, List.length_nil, List.length_append, List.length_cons]); omega) (by omega) rfl rfl (fun v_54 w_54 hc_54 ho_54 ag_54 ob_54 => ?_)
      have o54 := ho_54 (.inr (Ows.lit0 hb_51 (by omega)))
      have d_o54_bN := obNe ob_54 (fun k hk e => nN__51.symm ((obLit hk).trans e)) hbN.lt
      have dd_o54_hI := obDF ob_54 (fun k hk h2 => d_hI_b_51 k h2 (obLit hk).symm) (fun k hk => (hI.ge k hk).2)
      have d_o54_b_3 := obNe ob_54 (fun k hk e => n_3__51.symm ((obLit hk).trans e)) hb_3.lt
      have d_o54_b_6 := obNe ob_54 (fun k hk e => n_6__51.symm ((obLit hk).trans e)) hb_6.lt
      have d_o54_b_7 := obNe ob_54 (fun k hk e => n_7__51.symm ((obLit hk).trans e)) hb_7.lt
      have G := agApp G ag_54 (by first | exact Nat.le_refl _ | omega)
      have hbN := hbN.step ag_54 (fun e => nN__51.symm (obLit e.1))
      have hI := hI.step ag_54 (fun k hk e => (fun k hk h2 => d_hI_b_51 k h2 (obLit hk).symm) k e.1 hk)
      have hb_3 := hb_3.step ag_54 (fun e => n_3__51.symm (obLit e.1))
      have hb_6 := hb_6.step ag_54 (fun e => n_6__51.symm (obLit e.1))
      have hb_7 := hb_7.step ag_54 (fun e => n_7__51.symm (obLit e.1))
      obtain ⟨a_54, c_54, rfl, k_54⟩ := o54.form
      rw [List.nil_append] at o54
      refine RL.ev (.assign rfl) rfl rfl ?_
      refine RL.nil (RC.back ?_)
      refine RC.seq ?_
      refine RC.region rfl ?_
      refine RL.ev (.move rfl) rfl rfl ?_
      refine RL.ev (.len sl26 rfl) rfl rfl ?_
      refine RL.ev (.move rfl) rfl rfl ?_
      refine RL.nil (RC.back ?_)
      refine RC.block ?_
      refine RC.loop (α := Nat × List It × List Node × List Int × Int × (Option Addr × Nat × Nat)) (fun x => [(3, .pointer (some ⟨b_3, 0, none⟩)), (6, .pointer (some ⟨b_6, 0, none⟩)), (7, .pointer (some ⟨b_7, 0, none⟩)), (8, .slice x.2.2.2.2.2.1 x.2.2.2.2.2.2.1 x.2.2.2.2.2.2.2), (56, .int .i64 (l.length : Int)), (57, .int .i64 (x.1 : Int))]) (fun x w6 => LcS w bN cN nn b_3 b_6 b_7 ns at_ l ms x.1 x.2.1 x.2.2.1 x.2.2.2.1 x.2.2.2.2.1 x.2.2.2.2.2.1 x.2.2.2.2.2.2.1 x.2.2.2.2.2.2.2 w6) (fun x => l.length - x.1) (0, l, ns, [], 0, a_54, _, c_54) (keep_of (by repeat (first | exact trivial | refine And.intro rfl ?_))) (⟨Nat.zero_le _, hmp.symm, LyF.nil _ _ _, o54, hb_3, hb_6, hb_7, hbN, fun k hk => ⟨d_o54_b_3 k hk, d_o54_b_6 k hk, d_o54_b_7 k hk, d_o54_bN k hk⟩, G⟩) (fun x w6 hJ => ?_)
      obtain ⟨i, rest, n1, ks, rr, ar, mr, cr⟩ := x; obtain ⟨hi, hrp, hF, o, hb_3, hb_6, hb_7, hbN, dd, G⟩ := hJ; simp only [] at hi hrp hF o hb_3 hb_7 hbN dd; obtain rfl := o.sl.2; have szB := G.size; have hrl := hrp.length_eq; rw [List.length_drop] at hrl; have dd3 : ∀ k, ob (.slice ar (rest.map It.cells).length cr) = some k → k ≠ b_3 := fun k hk => (dd k hk).1; have dd6 : ∀ k, ob (.slice ar (rest.map It.cells).length cr) = some k → k ≠ b_6 := fun k hk => (dd k hk).2.1; have dd7 : ∀ k, ob (.slice ar (rest.map It.cells).length cr) = some k → k ≠ b_7 := fun k hk => (dd k hk).2.2.1; have ddN : ∀ k, ob (.slice ar (rest.map It.cells).length cr) = some k → k ≠ bN := fun k hk => (dd k hk).2.2.2; have hks := hF.kl; rw [partsC_len (by omega)] at hks; have hnl1 := hF.len
      refine RC.seq ?_
      refine RC.region rfl ?_
      refine RL.ev (.bin rfl rfl rfl) rfl rfl ?_
      refine RL.nil (RC.back ?_)
      refine RC.seq ?_
      refine RC.cond_dec rfl (fun h7 => ?_) (fun h7 => ?_)
      ·
        have h58 := h7
        simp only [] at h58
        have hi9 : i < 9 := (by omega)
        refine RC.skip (RC.back ?_)
        refine RC.seq ?_
        refine RC.block ?_
        refine RC.seq ?_
        refine RC.region rfl ?_
        refine RL.ev (.move rfl) rfl rfl ?_
        refine RL.ev (.assign rfl) rfl rfl ?_
        refine RL.nil (RC.back ?_)
        refine RC.seq ?_
        refine RC.region rfl ?_
        refine RL.ev (.move rfl) rfl rfl ?_
        refine RL.call rfl ok63 (c_refLeast rest ar cr _ (List.length_map _) (by omega) w6 o.sl.1 (by omega)) rfl rfl ?_
        rintro _ w8 ⟨s9, n, x, rfl, hn, hle⟩
        have G := G.trans s9.agr
        have hbN := hbN.sub s9
        have o := o.sub s9
        have hb_3 := hb_3.sub s9
        have hb_6 := hb_6.sub s9
        have hb_7 := hb_7.sub s9
        have szB := Nat.le_trans szB s9.size
        obtain ⟨hmi, hrp2⟩ := least_is hms hrp hn hle
        have hnl2 := lt_of_get hn
        have hcr : rest.length ≤ cr := (by obtain ⟨_, c', e, h⟩ := o.form; cases e; rw [List.length_map] at h; exact h)
        have ht1 : (rest.take n).length = n := (by rw [List.length_take]; omega)
        have ht2 : (rest.drop (n + 1)).length = rest.length - (n + 1) := List.length_drop
        refine RL.ev (.assign rfl) rfl rfl ?_
        refine RL.nil (RC.back ?_)
        refine RC.seq ?_
        refine RC.drawD (fun k => k = b_3 ∨ k = bN) [6, 7] w8.heap.size 8 rfl rfl mxo (fun w10 s11 => ?_)
        have ltD_bN := hbN.lt
        have ltD_o := fun k hk => (o.ge k hk).2
        have ltD_b_3 := hb_3.lt
        have ltD_b_6 := hb_6.lt
        have ltD_b_7 := hb_7.lt
        have szD := Nat.le_refl w8.heap.size
        have G := G.trans s11.agr
        have hbN := hbN.sub s11
        have o := o.sub s11
        have hb_3 := hb_3.sub s11
        have hb_6 := hb_6.sub s11
        have hb_7 := hb_7.sub s11
        have szB := Nat.le_trans szB s11.size
        have szD := Nat.le_trans szD s11.size
        refine RD.takeL 0 rfl (by kernel_rfl) (by kernel_rfl) (by kernel_rfl) (by kernel_rfl) (fun w' s' => .loadR (tyC bN nn cN ((at_ + i : Nat) : Int) rr) sh80 rfl (hb_3.step s' (fun e => Nat.not_le.2 ltD_b_3 e)).row rfl) rfl rfl ?_
        refine RD.take 1 rfl (by kernel_rfl) (by kernel_rfl) (by kernel_rfl) (fun w' s' => .move rfl) rfl rfl ?_
        refine RD.take 2 rfl (by kernel_rfl) (by kernel_rfl) (by kernel_rfl) (fun w' s' => .move rfl) rfl rfl ?_
        refine RD.take 3 rfl (by kernel_rfl) (by kernel_rfl) (by kernel_rfl) (fun w' s' => .move rfl) rfl rfl ?_
        refine RD.take 4 rfl (by kernel_rfl) (by kernel_rfl) (by kernel_rfl) (fun w' s' => .as (.bin rfl rfl rfl) (wi64 (y := ((n + 1 : Nat) : Int)) (by omega) (by omega))) rfl rfl ?_
        refine RD.take 5 rfl (by kernel_rfl) (by kernel_rfl) (by kernel_rfl) (fun w' s' => .as (v' := .slice (if cr = n then ar else ar.map (·.add (n * 2))) 1 (cr - n)) (.sliceLH sl26 rfl rfl rfl (by simp only []; omega)) (by congr 1; show n + 1 - n = 1; omega)) rfl rfl ?_
        refine RD.all [6] (by kernel_rfl) rfl (RDs.cons rfl ?_ (RDs.nil))
        refine RL.call rfl ok45 (c_layFew bN cN nn 0 10 n1 (at_ + i) rr [x] (fun k => ob (.slice ar (rest.map It.cells).length cr) = some k) _ _ 1 w10 rfl (Nat.le_refl 1) (by simp only [List.length_singleton]; omega) (hnl1.trans hnn) hn6 (o.ft.imp fun u h => by have h2 := slTakeM (slDropM h.sl.1 n hcr) 1; rw [drop_take1 hn] at h2; exact h2) ddN hbN) rfl rfl ?_
        rintro vL w12 ⟨n2, r2, hv, hLy, ag1, hN1⟩
        have G := G.trans ag1
        have o := o.updD ag1 ddN
        have hb_3 := hb_3.upd ag1 nN__3.symm
        have hb_6 := hb_6.upd ag1 nN__6.symm
        have hb_7 := hb_7.upd ag1 nN__7.symm
        have szB := Nat.le_trans szB ag1.size
        have szD := Nat.le_trans szD ag1.size
        rw [show cnt 0 [x] = 1 from cnt_few (Nat.le_refl 1)] at hv
        subst hv
        have hbN := hN1
        have hF2 := hF.step (by rw [partsC_sum (by omega)]) hLy
        rw [← partsC_succ hmi] at hF2
        refine RD.backW rfl (ag1.mono fun k _ e => .inl (.inr e)) ?_
        refine RD.all [7] (by kernel_rfl) rfl (RDs.cons rfl ?_ (RDs.nil))
        refine RL.store sh80 rfl rfl rfl hb_3 (by exact Nat.le_of_ble_eq_true rfl) (by rfl) rfl (fun w14 z14 hb_3 a14 => ?_)
        have G := agNew G a14 geG_3
        have hbN := hbN.upd a14 nN__3
        have o := o.updD a14 dd3
        have hb_6 := hb_6.upd a14 n_3__6.symm
        have hb_7 := hb_7.upd a14 n_3__7.symm
        have szB := Nat.le_trans szB a14.size
        have szD := Nat.le_trans szD a14.size
        have hb_3 : Has w14 b_3 (tyC bN nn cN ((at_ + (i + 1) : Nat) : Int) r2) _ := hb_3.now (by kernel_rfl)
        refine RD.backW rfl (a14.mono fun k _ e => e ▸ (.inl (.inl rfl))) ?_
        refine RD.done (by kernel_rfl) (RC.back ?_)
        refine RC.seq ?_
        refine RC.region rfl ?_
        refine RL.ev (.move rfl) rfl rfl ?_
        refine RL.ev (.field0 fo80_2 rfl) rfl rfl ?_
        refine RL.ev (.load1 sh36 rfl (hb_3.cell rfl)) rfl rfl ?_
        refine RL.ev (.field0 fo97_5 rfl) rfl rfl ?_
        refine RL.ev (.indexArr ar95 rfl rfl (by omega)) rfl rfl ?_
        refine RL.store sh36 rfl rfl rfl hb_7 (by show 5 + i * 1 + 1 ≤ 16; omega) (by rfl) rfl (fun w15 z15 hb_7 a15 => ?_)
        have G := agNew G a15 geG_7
        have hbN := hbN.upd a15 nN__7
        have o := o.updD a15 dd7
        have hb_3 := hb_3.upd a15 n_3__7
        have hb_6 := hb_6.upd a15 n_6__7
        have szB := Nat.le_trans szB a15.size
        have hb_7 : Has w15 b_7 (hN 4 0 0 0 l.length (ks ++ [r2])).cells 97 := (by rw [← kids_put 4 0 l.length ks r2 hks.symm hi9]; exact hb_7)
        refine RL.nil (RC.back ?_)
        refine RC.seq ?_
        refine RC.region rfl ?_
        refine RL.buildSlice0 sl26 rfl rfl (fun b_74 w_74 e_74 z_74 hb_74 s_74 => ?_)
        have nN__74 := hbN.ne e_74
        have n_3__74 := hb_3.ne e_74
        have n_6__74 := hb_6.ne e_74
        have n_7__74 := hb_7.ne e_74
        have d_o_b_74 := o.neNew e_74
        have geG_74 := agLe G e_74
        have G := G.trans s_74.agr
        have hbN := hbN.sub s_74
        have o := o.sub s_74
        have hb_3 := hb_3.sub s_74
        have hb_6 := hb_6.sub s_74
        have hb_7 := hb_7.sub s_74
        have szB := Nat.le_trans szB s_74.size
        refine RL.ev (.assign rfl) rfl rfl ?_
        refine RL.nil (RC.back ?_)
        refine RC.seq ?_
        refine RC.region rfl ?_
        refine RL.ev (.move rfl) rfl rfl ?_
        refine RL.ev (.move rfl) rfl rfl ?_
        refine RL.ev (.move rfl) rfl rfl ?_
        refine RL.ev (.as (v' := .slice ar (rest.take n).length cr) (.sliceHi sl26 rfl rfl (by simp only []; omega)) (by rw [List.length_take, Nat.min_eq_left (by omega)]; rfl)) rfl rfl ?_
        have szG_79 := G.size
        have ltbN_79 := hbN.lt
        have ltb_3_79 := hb_3.lt
        have ltb_6_79 := hb_6.lt
        have ltb_7_79 := hb_7.lt
        have ltb_74_79 := hb_74.lt
        refine RL.append2 (base := w.heap.size) (rows := []) (news := (rest.take n).map It.cells) sl26 ze29 rfl rfl rfl rfl (.inl (Ows.lit0 hb_74 (by omega))) (slTakeM o.sl.1 n) (by (try simp only [List.length_map]); first | done | rfl) (by intro r hr; obtain ⟨x, _, rfl⟩ := List.mem_map.1 hr; rfl) (by rw [List.all_eq_true]; intro r hr; obtain ⟨x, _, rfl⟩ := List.mem_map.1 hr; rfl) (by (try simp only [List.length_map, List.length_nil, List.length_append, List.length_cons]); omega) (by (try simp only [List.length_map, List.length_nil, List.length_append, List.length_cons]); omega) (by omega) rfl rfl (fun v_79 w_79 hc_79 ho_79 ag_79 ob_79 => ?_)
        have o79 := ho_79 (.inr (Ows.lit0 hb_74 (by omega)))
        have d_o79_bN := obNe ob_79 (fun k hk e => nN__74.symm ((obLit hk).trans e)) hbN.lt
        have dd_o79_o := obDD ob_79 (fun k hk h2 => d_o_b_74 k h2 (obLit hk).symm) (fun k hk => (o.ge k hk).2)
        have d_o79_b_3 := obNe ob_79 (fun k hk e => n_3__74.symm ((obLit hk).trans e)) hb_3.lt
        have d_o79_b_6 := obNe ob_79 (fun k hk e => n_6__74.symm ((obLit hk).trans e)) hb_6.lt
        have d_o79_b_7 := obNe ob_79 (fun k hk e => n_7__74.symm ((obLit hk).trans e)) hb_7.lt
        have G := agApp G ag_79 (by first | exact Nat.le_refl _ | omega)
        have hbN := hbN.step ag_79 (fun e => nN__74.symm (obLit e.1))
        have o := o.step ag_79 (fun k hk e => (fun k hk h2 => d_o_b_74 k h2 (obLit hk).symm) k e.1 hk)
        have hb_3 := hb_3.step ag_79 (fun e => n_3__74.symm (obLit e.1))
        have hb_6 := hb_6.step ag_79 (fun e => n_6__74.symm (obLit e.1))
        have hb_7 := hb_7.step ag_79 (fun e => n_7__74.symm (obLit e.1))
        have szB := Nat.le_trans szB ag_79.size
        obtain ⟨a_79, c_79, rfl, k_79⟩ := o79.form
        rw [List.nil_append] at o79
        refine RL.ev (.assign rfl) rfl rfl ?_
        refine RL.nil (RC.back ?_)
        refine RC.seq ?_
        refine RC.region rfl ?_
        refine RL.ev (.move rfl) rfl rfl ?_
        refine RL.ev (.move rfl) rfl rfl ?_
        refine RL.ev (.move rfl) rfl rfl ?_
        refine RL.ev (.as (.bin rfl rfl rfl) (wi64 (y := ((n + 1 : Nat) : Int)) (by omega) (by omega))) rfl rfl ?_
        refine RL.ev (.as (v' := .slice (if cr = n + 1 then ar else ar.map (·.add ((n + 1) * 2))) (rest.drop (n + 1)).length (cr - (n + 1))) (.sliceLo sl26 rfl rfl (by simp only [List.length_map]; omega)) (by rw [List.length_drop]; first | rfl | (simp only [List.length_map]; rfl))) rfl rfl ?_
        have szG_85 := G.size
        have ltbN_85 := hbN.lt
        have ltb_3_85 := hb_3.lt
        have ltb_6_85 := hb_6.lt
        have ltb_7_85 := hb_7.lt
        refine RL.append2 (base := w.heap.size) (rows := (rest.take n).map It.cells) (news := (rest.drop (n + 1)).map It.cells) sl26 ze29 rfl rfl rfl rfl (.inl o79) (slDropM o.sl.1 (n + 1) hcr) (by (try simp only [List.length_map]); first | done | rfl) (by intro r hr; obtain ⟨x, _, rfl⟩ := List.mem_map.1 hr; rfl) (by rw [List.all_eq_true]; intro r hr; obtain ⟨x, _, rfl⟩ := List.mem_map.1 hr; rfl) (by (try simp only [List.length_map, List.length_nil, List.length_append, List.length_cons]); omega) (by (try simp only [List.length_map, List.length_nil, List.length_append, List.length_cons]); omega) (by omega) rfl rfl (fun v_85 w_85 hc_85 ho_85 ag_85 ob_85 => ?_)
        have o85 := ho_85 (.inr o79)
        have d_o85_bN := obNe ob_85 d_o79_bN hbN.lt
        have dd_o85_o := obDD ob_85 dd_o79_o (fun k hk => (o.ge k hk).2)
        have d_o85_b_3 := obNe ob_85 d_o79_b_3 hb_3.lt
        have d_o85_b_6 := obNe ob_85 d_o79_b_6 hb_6.lt
        have d_o85_b_7 := obNe ob_85 d_o79_b_7 hb_7.lt
        have G := agApp G ag_85 (by first | exact Nat.le_refl _ | omega)
        have hbN := hbN.step ag_85 (fun e => d_o79_bN _ e.1 rfl)
        have o := o.step ag_85 (fun k hk e => dd_o79_o k e.1 hk)
        have hb_3 := hb_3.step ag_85 (fun e => d_o79_b_3 _ e.1 rfl)
        have hb_6 := hb_6.step ag_85 (fun e => d_o79_b_6 _ e.1 rfl)
        have hb_7 := hb_7.step ag_85 (fun e => d_o79_b_7 _ e.1 rfl)
        have szB := Nat.le_trans szB ag_85.size
        obtain ⟨a_85, c_85, rfl, k_85⟩ := o85.form
        refine RL.ev (.assign rfl) rfl rfl ?_
        refine RL.nil (RC.back ?_)
        refine RC.region rfl ?_
        refine RL.ev (.move rfl) rfl rfl ?_
        refine RL.ev (.assign rfl) rfl rfl ?_
        refine RL.nil (RC.back ?_)
        refine RC.region rfl ?_
        refine RL.ev (.as (.bin rfl rfl rfl) (wi64 (y := ((i + 1 : Nat) : Int)) (by simp only []; omega) (by omega))) rfl rfl ?_
        refine RL.ev (.move rfl) rfl rfl ?_
        exact RL.nil (fun a ka => ⟨(i + 1, rest.take n ++ rest.drop (n + 1), n2, ks ++ [r2], r2, a_85, _, c_85), ⟨by simp only []; omega, hrp2, hF2, by show Ows _ _ _ _ _ ((rest.take n ++ rest.drop (n + 1)).map It.cells); rw [List.map_append]; exact o85, hb_3, hb_6, hb_7, hbN, fun k hk => ⟨d_o85_b_3 k hk, d_o85_b_6 k hk, d_o85_b_7 k hk, d_o85_bN k hk⟩, G⟩, by simp only []; omega, ka.keep (keep_of (by repeat (first | exact trivial | refine And.intro rfl ?_)))⟩)
      ·
        have h58 := h7
        simp only [] at h58
        obtain rfl : i = l.length := (by omega)
        refine RC.exit rfl (RC.back ?_)
        refine RC.seq ?_
        refine RC.region rfl ?_
        refine RL.ev (.field0 fo80_0 rfl) rfl rfl ?_
        refine RL.ev (.field0 fo34_0 rfl) rfl rfl ?_
        refine RL.ev (.load1 sh31 rfl (hb_3.cell rfl)) rfl rfl ?_
        refine RL.ev (.field0 fo80_1 rfl) rfl rfl ?_
        refine RL.ev (.load1 sh3 rfl (hb_3.cell rfl)) rfl rfl ?_
        refine RL.ev (.loadR ((hN 4 0 0 0 l.length ks).cells) sh97 rfl hb_7.row rfl) rfl rfl ?_
        refine RL.ev (.indexO sl31 rfl rfl (by omega)) rfl rfl ?_
        refine RL.store sh97 rfl rfl rfl hbN (by rw [flat_len (sz := 16) _ (node_rows _), List.length_map]; show 0 + (at_ + l.length) * 16 + 16 ≤ _; omega) (by rfl) rfl (fun w16 z16 hbN a16 => ?_)
        have G := G.trans a16
        have o := o.updD a16 ddN
        have hb_3 := hb_3.upd a16 nN__3.symm
        have hb_6 := hb_6.upd a16 nN__6.symm
        have hb_7 := hb_7.upd a16 nN__7.symm
        have szB := Nat.le_trans szB a16.size
        have hbN : Has w16 bN (nodeL (n1.set (at_ + l.length) (hN 4 0 0 0 l.length ks))) 97 := by rw [nodeL, List.map_set]; exact row_set0 (sz := 16) (i := at_ + l.length) (by rw [Nat.zero_add] at hbN; exact hbN) (node_rows _) (by rw [List.length_map]; omega) rfl
        refine RL.nil (RC.back ?_)
        refine RC.seq ?_
        refine RC.region rfl ?_
        refine RL.ev (.field0 fo80_1 rfl) rfl rfl ?_
        refine RL.ev (.load1 sh3 rfl (hb_3.cell rfl)) rfl rfl ?_
        refine RL.ev (.as (.bin rfl rfl rfl) (wi64 (y := ((at_ + l.length + 1 : Nat) : Int)) (by omega) (by omega))) rfl rfl ?_
        refine RL.ev (.field0 fo80_1 rfl) rfl rfl ?_
        refine RL.store sh3 rfl rfl rfl hb_3 (by exact Nat.le_of_ble_eq_true rfl) (by rfl) rfl (fun w17 z17 hb_3 a17 => ?_)
        have G := agNew G a17 geG_3
        have hbN := hbN.upd a17 nN__3
        have o := o.updD a17 dd3
        have hb_6 := hb_6.upd a17 n_3__6.symm
        have hb_7 := hb_7.upd a17 n_3__7.symm
        have szB := Nat.le_trans szB a17.size
        have hb_3 : Has w17 b_3 (tyC bN nn cN ((at_ + l.length + 1 : Nat) : Int) rr) _ := hb_3
        refine RL.nil (RC.back ?_)
        refine RC.seq ?_
        refine RC.region rfl ?_
        refine RL.ev (.field0 fo80_1 rfl) rfl rfl ?_
        refine RL.ev (.load1 sh3 rfl (hb_3.cell rfl)) rfl rfl ?_
        refine RL.ev (.as (.conv i3 i36 rfl) (wu64 (y := ((at_ + l.length : Nat) : Int) + 1) (by omega) (by omega))) rfl rfl ?_
        refine RL.ev (.field0 fo80_2 rfl) rfl rfl ?_
        refine RL.store sh36 rfl rfl rfl hb_3 (by exact Nat.le_of_ble_eq_true rfl) (by rfl) rfl (fun w18 z18 hb_3 a18 => ?_)
        have G := agNew G a18 geG_3
        have hbN := hbN.upd a18 nN__3
        have o := o.updD a18 dd3
        have hb_6 := hb_6.upd a18 n_3__6.symm
        have hb_7 := hb_7.upd a18 n_3__7.symm
        have szB := Nat.le_trans szB a18.size
        have hb_3 : Has w18 b_3 (tyC bN nn cN ((at_ + l.length + 1 : Nat) : Int) (((at_ + l.length : Nat) : Int) + 1)) _ := hb_3
        refine RL.nil (RC.back ?_)
        refine RC.seq ?_
        refine RC.region rfl ?_
        refine RL.ev (.loadR (tyC bN nn cN ((at_ + l.length + 1 : Nat) : Int) (((at_ + l.length : Nat) : Int) + 1)) sh80 rfl hb_3.row rfl) rfl rfl ?_
        refine RL.store sh80 rfl rfl rfl hb_6 (by exact Nat.le_of_ble_eq_true rfl) (by rfl) rfl (fun w19 z19 hb_6 a19 => ?_)
        have G := agNew G a19 geG_6
        have hbN := hbN.upd a19 nN__6
        have o := o.updD a19 dd6
        have hb_3 := hb_3.upd a19 n_3__6
        have hb_7 := hb_7.upd a19 n_6__7.symm
        have szB := Nat.le_trans szB a19.size
        have hb_6 : Has w19 b_6 (tyC bN nn cN ((at_ + l.length + 1 : Nat) : Int) (((at_ + l.length : Nat) : Int) + 1)) _ := hb_6.now (by kernel_rfl)
        refine RL.nil (RC.back ?_)
        refine RC.done (rs := [.cell 6 80]) (vs := [_]) rfl rfl ⟨⟨_, rfl, .inr ⟨tyC bN nn cN ((at_ + l.length + 1 : Nat) : Int) (((at_ + l.length : Nat) : Int) + 1), sh80, hb_6.row, rfl⟩⟩, trivial⟩ ?_
        -- end 1
        exact ⟨_, ((at_ + l.length : Nat) : Int) + 1, (by rw [hck, show at_ + (1 + l.length) = at_ + l.length + 1 by omega]; rfl), ly_clash hmp hms hl9 hF rfl (by omega) (by omega) hl2, G, hbN⟩
/-- no hash has too many keys -/
def FitH : Nat → List It → Prop
  | 0, l => l.length ≤ 9
  | k + 1, l => ∀ i, i < 4 → FitH k (ofL (9 - k) i l)
theorem hash_full (key : Int) : hashOf key % 4 ^ 10 = hashOf key := Nat.mod_eq_of_lt (by unfold hashOf; exact Nat.mod_lt _ (by decide))
theorem fit_of : ∀ {k d : Nat} {l : List It}, k ≤ 10 → Fam (10 - k) d l → (∀ x ∈ l, shL x.k l ≤ 9) → FitH k l
  | 0, d, l, _, hf, h => by
    rcases l with _ | ⟨x, l⟩
    · exact Nat.zero_le _
    · have h1 := h x (by simp)
      have e : shL x.k (x :: l) = (x :: l).length := by
        unfold shL
        rw [List.filter_eq_self.2]
        intro y hy
        have e1 := hf y hy
        have e2 := hf x (by simp)
        rw [hash_full] at e1 e2
        simp [e1, e2]
      rw [e] at h1
      exact h1
  | k + 1, d, l, hk, hf, h => fun i hi => by
    have h1 : 10 - (k + 1) = 9 - k := by omega
    rw [h1] at hf
    have h2 := hf.of (i := i)
    rw [show 9 - k + 1 = 10 - k by omega] at h2
    refine fit_of (by omega) h2 fun x hx => Nat.le_trans ?_ (h x (ofL_mem.1 hx).1)
    unfold shL
    exact (List.Sublist.filter _ List.filter_sublist).length_le
theorem sumT_succ (k : Nat) (l : List It) (i : Nat) : ((partsT k l (i + 1)).map (cnt k)).sum = ((partsT k l i).map (cnt k)).sum + cnt k (ofL (9 - k) i l) := by
  rw [partsT_succ, List.map_append]; exact sum_snoc _ _
/-- the rounds over digits -/
structure LtS (w0 : World) (bN cN nn b3 b6 b7 : Nat) (ns : List Node) (at_ k : Nat) (l : List It) (M : Nat → Prop) (a : Option Addr) (i : Nat) (n1 : List Node) (ks : List Int) (r : Int) (w : World) : Prop where
  hi : i ≤ 4
  F : LyF ns at_ k (partsT k l i) n1 ks
  h3 : Has w b3 (tyC bN nn cN ((at_ + ((partsT k l i).map (cnt k)).sum : Nat) : Int) r) 80
  h6 : Has w b6 [.slice none 0 0, .slice none 0 0, .int .i64 0, .int .u64 0] 80
  h7 : Has w b7 (hN 2 0 0 0 l.length ks).cells 97
  hN : Has w bN (nodeL n1) 97
  hI : Ft M (fun u => Sl u a 2 (l.map It.cells)) w
  G : Agr (· = bN) w0 w
set_option maxHeartbeats 1000000 in
theorem c_layT (bN cN nn k lv : Nat) (hk : k ≤ 9) (hlv : lv = 9 - k) (hn6 : nn ≤ 1000000)
    (ih : ∀ (ns : List Node) (at_ : Nat) (r0 : Int) (l : List It) (M : Nat → Prop) (a : Option Addr) (c m : Nat) (w : World), Ap l → FitH k l → m = l.length → l.length ≤ 1000000 → at_ + cnt k l ≤ ns.length → ns.length = nn → Ft M (fun u => Sl u a 2 (l.map It.cells)) w → (∀ k, M k → k ≠ bN) → Has w bN (nodeL ns) 97 → FC Try.prog 45 [.agg (tyC bN nn cN at_ r0).toArray, .slice a m c, .int .i64 ((lv + 1 : Nat) : Int)] w (LayA bN nn cN ns at_ k l w))
    (ns : List Node) (at_ : Nat) (r0 : Int) (l : List It) (hap : Ap l) (hfit : FitH (k + 1) l) (M : Nat → Prop) (a : Option Addr) (c m : Nat) (w : World) (hm : m = l.length) (hl2 : 2 ≤ l.length) (hl6 : l.length ≤ 1000000) (hat : at_ + cnt (k + 1) l ≤ ns.length) (hnn : ns.length = nn) (hI : Ft M (fun u => Sl u a 2 (l.map It.cells)) w) (dN : ∀ k, M k → k ≠ bN) (hbN : Has w bN (nodeL ns) 97) :
    FC Try.prog 45 [.agg (tyC bN nn cN at_ r0).toArray, .slice a m c, .int .i64 (lv : Int)] w (LayA bN nn cN ns at_ (k + 1) l w) := by
  subst hm
  have hck := partsT_sum (k := k) hl2
  have hple := fun i hi => partsT_le (k := k) (l := l) i hi
  refine FC.intro Try.func45 rfl Try.ntmps45 rfl ?_
  have G : Agr (· = bN) w w := Agr.refl _ _
  refine RC.seq ?_
  refine RC.region rfl ?_
  refine RL.box rfl rfl rfl (fun b_3 w_3 e_3 z_3 hb_3 s_3 => ?_)
  have nN__3 := hbN.ne e_3
  have d_hI_b_3 := hI.neNew e_3
  have geG_3 := agLe G e_3
  have G := G.trans s_3.agr
  have hbN := hbN.sub s_3
  have hI := hI.sub s_3
  have hb_3 : Has w_3 b_3 (tyC bN nn cN at_ r0) _ := hb_3
  refine RL.alloc ze80 rfl rfl (fun b_6 w_6 e_6 z_6 hb_6 s_6 => ?_)
  have nN__6 := hbN.ne e_6
  have n_3__6 := hb_3.ne e_6
  have d_hI_b_6 := hI.neNew e_6
  have geG_6 := agLe G e_6
  have G := G.trans s_6.agr
  have hbN := hbN.sub s_6
  have hI := hI.sub s_6
  have hb_3 := hb_3.sub s_6
  refine RL.nil (RC.back ?_)
  refine RC.seq ?_
  refine RC.region rfl ?_
  refine RL.ev (.field0 fo80_2 rfl) rfl rfl ?_
  refine RL.store sh36 rfl rfl rfl hb_3 (by exact Nat.le_of_ble_eq_true rfl) (by rfl) rfl (fun w1 z1 hb_3 a1 => ?_)
  have G := agNew G a1 geG_3
  have hbN := hbN.upd a1 nN__3
  have hI := hI.updD a1 d_hI_b_3
  have hb_6 := hb_6.upd a1 n_3__6.symm
  have hb_3 : Has w1 b_3 (tyC bN nn cN at_ 0) _ := hb_3
  refine RL.nil (RC.back ?_)
  refine RC.seq ?_
  refine RC.seq ?_
  refine RC.region rfl ?_
  refine RL.ev (.move rfl) rfl rfl ?_
  refine RL.ev (.len sl26 rfl) rfl rfl ?_
  refine RL.ev (.bin rfl rfl rfl) rfl rfl ?_
  refine RL.nil (RC.back ?_)
  refine RC.cond_dec rfl (fun h2 => ?_) (fun h2 => ?_)
  ·
    exact absurd (show l.length = 0 by have := h2; omega) (by omega)
  ·
    refine RC.skip (RC.back ?_)
    refine RC.seq ?_
    refine RC.seq ?_
    refine RC.region rfl ?_
    refine RL.ev (.move rfl) rfl rfl ?_
    refine RL.ev (.len sl26 rfl) rfl rfl ?_
    refine RL.ev (.bin rfl rfl rfl) rfl rfl ?_
    refine RL.nil (RC.back ?_)
    refine RC.cond_dec rfl (fun h3 => ?_) (fun h3 => ?_)
    ·
      exact absurd (show l.length = 1 by have := h3; omega) (by omega)
    ·
      refine RC.skip (RC.back ?_)
      refine RC.seq ?_
      refine RC.region rfl ?_
      refine RL.ev (.move rfl) rfl rfl ?_
      refine RL.ev (.len sl26 rfl) rfl rfl ?_
      refine RL.ev (.as (v' := .agg (hN 2 0 0 0 l.length []).cells.toArray) (.buildS ze97 pl97 rfl rfl) (by rfl)) rfl rfl ?_
      refine RL.alloc ze97 rfl rfl (fun b_7 w_7 e_7 z_7 hb_7 s_7 => ?_)
      have nN__7 := hbN.ne e_7
      have n_3__7 := hb_3.ne e_7
      have n_6__7 := hb_6.ne e_7
      have d_hI_b_7 := hI.neNew e_7
      have geG_7 := agLe G e_7
      have G := G.trans s_7.agr
      have hbN := hbN.sub s_7
      have hI := hI.sub s_7
      have hb_3 := hb_3.sub s_7
      have hb_6 := hb_6.sub s_7
      refine RL.store sh97 rfl rfl rfl hb_7 (by exact Nat.le_of_ble_eq_true rfl) (by rfl) rfl (fun w4 z4 hb_7 a4 => ?_)
      have G := agNew G a4 geG_7
      have hbN := hbN.upd a4 nN__7
      have hI := hI.updD a4 d_hI_b_7
      have hb_3 := hb_3.upd a4 n_3__7
      have hb_6 := hb_6.upd a4 n_6__7
      refine RL.nil (RC.back ?_)
      refine RC.seq ?_
      refine RC.seq ?_
      refine RC.region rfl ?_
      refine RL.ev (.move rfl) rfl rfl ?_
      refine RL.ev (.as (v' := .bool false) (.bin rfl rfl rfl) (congrArg Value.bool (decide_eq_false (by omega)))) rfl rfl ?_
      refine RL.nil (RC.back ?_)
      refine RC.cond_f rfl ?_
      refine RC.seq ?_
      refine RC.region rfl ?_
      refine RL.ev (.assign rfl) rfl rfl ?_
      refine RL.nil (RC.back ?_)
      refine RC.block ?_
      refine RC.loop (α := Nat × List Node × List Int × Int) (fun x => [(1, .slice a l.length c), (2, .int .i64 (lv : Int)), (3, .pointer (some ⟨b_3, 0, none⟩)), (6, .pointer (some ⟨b_6, 0, none⟩)), (7, .pointer (some ⟨b_7, 0, none⟩)), (12, .int .i64 (x.1 : Int))]) (fun x w5 => LtS w bN cN nn b_3 b_6 b_7 ns at_ k l M a x.1 x.2.1 x.2.2.1 x.2.2.2 w5) (fun x => 4 - x.1) (0, ns, [], 0) (keep_of (by repeat (first | exact trivial | refine And.intro rfl ?_))) (⟨Nat.zero_le _, LyF.nil _ _ _, hb_3, hb_6, hb_7, hbN, hI, G⟩) (fun x w5 hJ => ?_)
      obtain ⟨i, n1, ks, rr⟩ := x; obtain ⟨hi, hF, hb_3, hb_6, hb_7, hbN, hI, G⟩ := hJ; simp only [] at hi hF hb_3 hb_7 hbN; have hks := hF.kl; rw [partsT_len] at hks; have hnl1 := hF.len
      refine RC.seq ?_
      refine RC.seq ?_
      refine RC.region rfl ?_
      refine RL.ev (.move rfl) rfl rfl ?_
      refine RL.ev (.bin rfl rfl rfl) rfl rfl ?_
      refine RL.nil (RC.back ?_)
      refine RC.cond_dec rfl (fun h6 => ?_) (fun h6 => ?_)
      ·
        have h89 := h6
        simp only [] at h89
        have hi4 : i < 4 := (by omega)
        have hpl := hple i hi4
        refine RC.skip (RC.back ?_)
        refine RC.seq ?_
        refine RC.block ?_
        refine RC.seq ?_
        refine RC.drawD (fun k => k = b_3 ∨ k = bN) [7, 8] w5.heap.size 9 rfl rfl mxo (fun w7 s8 => ?_)
        have ltD_bN := hbN.lt
        have ltD_hI := fun k hk => (hI.ge k hk).2
        have ltD_b_3 := hb_3.lt
        have ltD_b_6 := hb_6.lt
        have ltD_b_7 := hb_7.lt
        have szD := Nat.le_refl w5.heap.size
        have G := G.trans s8.agr
        have hbN := hbN.sub s8
        have hI := hI.sub s8
        have hb_3 := hb_3.sub s8
        have hb_6 := hb_6.sub s8
        have hb_7 := hb_7.sub s8
        have szD := Nat.le_trans szD s8.size
        refine RD.takeL 0 rfl (by kernel_rfl) (by kernel_rfl) (by kernel_rfl) (by kernel_rfl) (fun w' s' => .loadR (tyC bN nn cN ((at_ + ((partsT k l i).map (cnt k)).sum : Nat) : Int) rr) sh80 rfl (hb_3.step s' (fun e => Nat.not_le.2 ltD_b_3 e)).row rfl) rfl rfl ?_
        refine RD.take 1 rfl (by kernel_rfl) (by kernel_rfl) (by kernel_rfl) (fun w' s' => .move rfl) rfl rfl ?_
        refine RD.take 2 rfl (by kernel_rfl) (by kernel_rfl) (by kernel_rfl) (fun w' s' => .move rfl) rfl rfl ?_
        refine RD.take 3 rfl (by kernel_rfl) (by kernel_rfl) (by kernel_rfl) (fun w' s' => .move rfl) rfl rfl ?_
        have ltw := hbN.lt
        refine RD.take 5 rfl (by kernel_rfl) (by kernel_rfl) (by kernel_rfl) (fun w' s' => .move rfl) rfl rfl ?_
        refine RD.take 6 rfl (by kernel_rfl) (by kernel_rfl) (by kernel_rfl) (fun w' s' => .as (.bin rfl rfl rfl) (wi64 (y := ((lv + 1 : Nat) : Int)) (by omega) (by omega))) rfl rfl ?_
        refine RD.all [4] (by kernel_rfl) rfl (RDs.cons rfl ?_ (RDs.nil))
        refine RL.call rfl ok62 (c_refOf9 l a c l.length rfl lv i (by omega) w7 hI.now hl6) rfl rfl ?_
        rintro _ w9 ⟨a1, c1, rfl, o1, s10⟩
        have G := G.trans s10.agr
        have hbN := hbN.sub s10
        have hI := hI.sub s10
        have hb_3 := hb_3.sub s10
        have hb_6 := hb_6.sub s10
        have hb_7 := hb_7.sub s10
        have szD := Nat.le_trans szD s10.size
        refine RD.back s10.agr ?_
        refine RD.all [7] (by kernel_rfl) rfl (RDs.cons rfl ?_ (RDs.nil))
        refine RL.call rfl ok45 (ih n1 (at_ + ((partsT k l i).map (cnt k)).sum) rr (ofL lv i l) _ a1 c1 _ w9 (hap.of _ _) (by rw [hlv]; exact hfit i hi4) (List.length_map _) (Nat.le_trans (ofL_len _ _ _) hl6) (by rw [hlv]; omega) (hnl1.trans hnn) (o1.ft.imp fun u h => h.sl.1) (owNw o1 ltw) hbN) rfl rfl ?_
        rintro vL w11 ⟨n2, r2, hv, hLy, ag1, hN1⟩
        have G := G.trans ag1
        have hI := hI.updD ag1 dN
        have hb_3 := hb_3.upd ag1 nN__3.symm
        have hb_6 := hb_6.upd ag1 nN__6.symm
        have hb_7 := hb_7.upd ag1 nN__7.symm
        have szD := Nat.le_trans szD ag1.size
        rw [hlv] at hv hLy
        rw [Nat.add_assoc, ← sumT_succ] at hv
        subst hv
        have hbN := hN1
        have hF2 := hF.step rfl hLy
        rw [← partsT_succ] at hF2
        refine RD.backW rfl (ag1.mono fun k _ e => .inl (.inr e)) ?_
        refine RD.all [8] (by kernel_rfl) rfl (RDs.cons rfl ?_ (RDs.nil))
        refine RL.store sh80 rfl rfl rfl hb_3 (by exact Nat.le_of_ble_eq_true rfl) (by rfl) rfl (fun w13 z13 hb_3 a13 => ?_)
        have G := agNew G a13 geG_3
        have hbN := hbN.upd a13 nN__3
        have hI := hI.updD a13 d_hI_b_3
        have hb_6 := hb_6.upd a13 n_3__6.symm
        have hb_7 := hb_7.upd a13 n_3__7.symm
        have szD := Nat.le_trans szD a13.size
        have hb_3 : Has w13 b_3 (tyC bN nn cN ((at_ + ((partsT k l (i + 1)).map (cnt k)).sum : Nat) : Int) r2) _ := hb_3.now (by kernel_rfl)
        refine RD.backW rfl (a13.mono fun k _ e => e ▸ (.inl (.inl rfl))) ?_
        refine RD.done (by kernel_rfl) (RC.back ?_)
        refine RC.region rfl ?_
        refine RL.ev (.move rfl) rfl rfl ?_
        refine RL.ev (.field0 fo80_2 rfl) rfl rfl ?_
        refine RL.ev (.load1 sh36 rfl (hb_3.cell rfl)) rfl rfl ?_
        refine RL.ev (.field0 fo97_5 rfl) rfl rfl ?_
        refine RL.ev (.indexArr ar95 rfl rfl (by omega)) rfl rfl ?_
        refine RL.store sh36 rfl rfl rfl hb_7 (by show 5 + i * 1 + 1 ≤ 16; omega) (by rfl) rfl (fun w14 z14 hb_7 a14 => ?_)
        have G := agNew G a14 geG_7
        have hbN := hbN.upd a14 nN__7
        have hI := hI.updD a14 d_hI_b_7
        have hb_3 := hb_3.upd a14 n_3__7
        have hb_6 := hb_6.upd a14 n_6__7
        have hb_7 : Has w14 b_7 (hN 2 0 0 0 l.length (ks ++ [r2])).cells 97 := (by rw [← kids_put 2 0 l.length ks r2 hks.symm (by omega)]; exact hb_7)
        refine RL.nil (RC.back ?_)
        refine RC.region rfl ?_
        refine RL.ev (.move rfl) rfl rfl ?_
        refine RL.ev (.as (.bin rfl rfl rfl) (wi64 (y := ((i + 1 : Nat) : Int)) (by simp only []; omega) (by omega))) rfl rfl ?_
        refine RL.ev (.assign rfl) rfl rfl ?_
        exact RL.nil (fun a ka => ⟨(i + 1, n2, ks ++ [r2], r2), ⟨by simp only []; omega, hF2, hb_3, hb_6, hb_7, hbN, hI, G⟩, by simp only []; omega, ka.keep (keep_of (by repeat (first | exact trivial | refine And.intro rfl ?_)))⟩)
      ·
        have h89 := h6
        simp only [] at h89
        obtain rfl : i = 4 := (by omega)
        refine RC.exit rfl (RC.back ?_)
        refine RC.seq ?_
        refine RC.region rfl ?_
        refine RL.ev (.field0 fo80_0 rfl) rfl rfl ?_
        refine RL.ev (.field0 fo34_0 rfl) rfl rfl ?_
        refine RL.ev (.load1 sh31 rfl (hb_3.cell rfl)) rfl rfl ?_
        refine RL.ev (.field0 fo80_1 rfl) rfl rfl ?_
        refine RL.ev (.load1 sh3 rfl (hb_3.cell rfl)) rfl rfl ?_
        refine RL.ev (.loadR ((hN 2 0 0 0 l.length ks).cells) sh97 rfl hb_7.row rfl) rfl rfl ?_
        refine RL.ev (.indexO sl31 rfl rfl (by omega)) rfl rfl ?_
        refine RL.store sh97 rfl rfl rfl hbN (by rw [flat_len (sz := 16) _ (node_rows _), List.length_map]; show 0 + (at_ + ((partsT k l 4).map (cnt k)).sum) * 16 + 16 ≤ _; omega) (by rfl) rfl (fun w15 z15 hbN a15 => ?_)
        have G := G.trans a15
        have hI := hI.updD a15 dN
        have hb_3 := hb_3.upd a15 nN__3.symm
        have hb_6 := hb_6.upd a15 nN__6.symm
        have hb_7 := hb_7.upd a15 nN__7.symm
        have hbN : Has w15 bN (nodeL (n1.set (at_ + ((partsT k l 4).map (cnt k)).sum) (hN 2 0 0 0 l.length ks))) 97 := by rw [nodeL, List.map_set]; exact row_set0 (sz := 16) (i := at_ + ((partsT k l 4).map (cnt k)).sum) (by rw [Nat.zero_add] at hbN; exact hbN) (node_rows _) (by rw [List.length_map]; omega) rfl
        refine RL.nil (RC.back ?_)
        refine RC.seq ?_
        refine RC.region rfl ?_
        refine RL.ev (.field0 fo80_1 rfl) rfl rfl ?_
        refine RL.ev (.load1 sh3 rfl (hb_3.cell rfl)) rfl rfl ?_
        refine RL.ev (.as (.bin rfl rfl rfl) (wi64 (y := ((at_ + ((partsT k l 4).map (cnt k)).sum + 1 : Nat) : Int)) (by omega) (by omega))) rfl rfl ?_
        refine RL.ev (.field0 fo80_1 rfl) rfl rfl ?_
        refine RL.store sh3 rfl rfl rfl hb_3 (by exact Nat.le_of_ble_eq_true rfl) (by rfl) rfl (fun w16 z16 hb_3 a16 => ?_)
        have G := agNew G a16 geG_3
        have hbN := hbN.upd a16 nN__3
        have hI := hI.updD a16 d_hI_b_3
        have hb_6 := hb_6.upd a16 n_3__6.symm
        have hb_7 := hb_7.upd a16 n_3__7.symm
        have hb_3 : Has w16 b_3 (tyC bN nn cN ((at_ + ((partsT k l 4).map (cnt k)).sum + 1 : Nat) : Int) rr) _ := hb_3
        refine RL.nil (RC.back ?_)
        refine RC.seq ?_
        refine RC.region rfl ?_
        refine RL.ev (.field0 fo80_1 rfl) rfl rfl ?_
        refine RL.ev (.load1 sh3 rfl (hb_3.cell rfl)) rfl rfl ?_
        refine RL.ev (.as (.conv i3 i36 rfl) (wu64 (y := ((at_ + ((partsT k l 4).map (cnt k)).sum : Nat) : Int) + 1) (by omega) (by omega))) rfl rfl ?_
        refine RL.ev (.field0 fo80_2 rfl) rfl rfl ?_
        refine RL.store sh36 rfl rfl rfl hb_3 (by exact Nat.le_of_ble_eq_true rfl) (by rfl) rfl (fun w17 z17 hb_3 a17 => ?_)
        have G := agNew G a17 geG_3
        have hbN := hbN.upd a17 nN__3
        have hI := hI.updD a17 d_hI_b_3
        have hb_6 := hb_6.upd a17 n_3__6.symm
        have hb_7 := hb_7.upd a17 n_3__7.symm
        have hb_3 : Has w17 b_3 (tyC bN nn cN ((at_ + ((partsT k l 4).map (cnt k)).sum + 1 : Nat) : Int) (((at_ + ((partsT k l 4).map (cnt k)).sum : Nat) : Int) + 1)) _ := hb_3
        refine RL.nil (RC.back ?_)
        refine RC.seq ?_
        refine RC.region rfl ?_
        refine RL.ev (.loadR (tyC bN nn cN ((at_ + ((partsT k l 4).map (cnt k)).sum + 1 : Nat) : Int) (((at_ + ((partsT k l 4).map (cnt k)).sum : Nat) : Int) + 1)) sh80 rfl hb_3.row rfl) rfl rfl ?_
        refine RL.store sh80 rfl rfl rfl hb_6 (by exact Nat.le_of_ble_eq_true rfl) (by rfl) rfl (fun w18 z18 hb_6 a18 => ?_)
        have G := agNew G a18 geG_6
        have hbN := hbN.upd a18 nN__6
        have hI := hI.updD a18 d_hI_b_6
        have hb_3 := hb_3.upd a18 n_3__6
        have hb_7 := hb_7.upd a18 n_6__7.symm
        have hb_6 : Has w18 b_6 (tyC bN nn cN ((at_ + ((partsT k l 4).map (cnt k)).sum + 1 : Nat) : Int) (((at_ + ((partsT k l 4).map (cnt k)).sum : Nat) : Int) + 1)) _ := hb_6.now (by kernel_rfl)
        refine RL.nil (RC.back ?_)
        refine RC.done (rs := [.cell 6 80]) (vs := [_]) rfl rfl ⟨⟨_, rfl, .inr ⟨tyC bN nn cN ((at_ + ((partsT k l 4).map (cnt k)).sum + 1 : Nat) : Int) (((at_ + ((partsT k l 4).map (cnt k)).sum : Nat) : Int) + 1), sh80, hb_6.row, rfl⟩⟩, trivial⟩ ?_
        -- end 1
        exact ⟨_, ((at_ + ((partsT k l 4).map (cnt k)).sum : Nat) : Int) + 1, (by rw [hck]; rfl), ly_trie hF rfl (by omega) (by omega) hl6 hl2, G, hbN⟩
theorem c_layH (bN cN nn : Nat) (hn6 : nn ≤ 1000000) : ∀ (k lv : Nat), k ≤ 10 → lv = 10 - k → ∀ (ns : List Node) (at_ : Nat) (r0 : Int) (l : List It) (M : Nat → Prop) (a : Option Addr) (c m : Nat) (w : World), Ap l → FitH k l → m = l.length → l.length ≤ 1000000 → at_ + cnt k l ≤ ns.length → ns.length = nn → Ft M (fun u => Sl u a 2 (l.map It.cells)) w → (∀ k, M k → k ≠ bN) → Has w bN (nodeL ns) 97 →
    FC Try.prog 45 [.agg (tyC bN nn cN at_ r0).toArray, .slice a m c, .int .i64 (lv : Int)] w (LayA bN nn cN ns at_ k l w)
  | k, lv, hk, hlv, ns, at_, r0, l, M, a, c, m, w, hap, hfit, hm, hl6, hat, hnn, hI, dN, hbN => by
    by_cases h1 : l.length ≤ 1
    · exact c_layFew bN cN nn k lv ns at_ r0 l M a c m w hm h1 (by rw [cnt_few h1] at hat; exact hat) hnn hn6 hI dN hbN
    · cases k with
      | zero =>
        obtain rfl : lv = 10 := by omega
        exact c_layC bN cN nn ns at_ r0 l hap M a c m w hm (by omega) hfit hat hnn hn6 hI dN hbN
      | succ k => exact c_layT bN cN nn k lv (by omega) (by omega) hn6 (c_layH bN cN nn hn6 k (lv + 1) (by omega) (by omega)) ns at_ r0 l hap hfit M a c m w hm (by omega) hl6 hat hnn hI dN hbN
end Go.Proofs.Ytbfjobmebkhblaa
set_option linter.unusedVariables false
set_option linter.unusedSimpArgs false
namespace Go.Proofs.Ytbfjobmebkhblaa
open Go Go.XL
theorem fit_10 {l : List It} (h : ∀ x ∈ l, shL x.k l ≤ 9) : FitH 10 l := fit_of (Nat.le_refl _) (fam_0 l) h
set_option maxHeartbeats 1000000 in
theorem c_build9 (size : Nat) (l : List It) (a : Option Addr) (c m : Nat) (hm : m = l.length) (hap : Ap l) (hfit : ∀ x ∈ l, shL x.k l ≤ 9) (hok : ∀ z ∈ l, z.ok) (h : cnt 10 l ≤ size) (h1 : 1 ≤ size) (h2 : size ≤ 1000000) (hl6 : l.length ≤ 1000000) (w : World) (hl : Sl w a 2 (l.map It.cells)) :
    FC Try.prog 18 [.int .i64 (size : Int), .slice a m c] w (fun v w' => ∃ B r na fa nc fc, v = .tuple #[arV na fa nc fc B, .int .u64 r] ∧ BldH size l B r ∧ B.nodes.length ≤ nc ∧ B.free.length ≤ fc ∧ (∀ N : Nat → Prop, (∀ k, N k → k < w.heap.size) → Imm N (fun u => ArR u na fa B) w') ∧ Sub w w') := by
  subst hm
  refine FC.intro Try.func18 rfl Try.ntmps18 rfl ?_
  have S := Sub.refl w
  refine RC.seq ?_
  refine RC.region rfl ?_
  refine RL.alloc ze34 rfl rfl (fun b_4 w_4 e_4 z_4 hb_4 s_4 => ?_)
  have ge_4 := S.le e_4
  have S := S.trans s_4
  refine RL.ev (.assign rfl) rfl rfl ?_
  refine RL.nil (RC.back ?_)
  refine RC.seq ?_
  refine RC.region rfl ?_
  refine RL.ev (.move rfl) rfl rfl ?_
  refine RL.makeSlice sl31 ze97 rfl rfl rfl rfl (by omega) rfl rfl (fun b_10 w_10 e_10 z_10 hb_10 s_10 => ?_)
  have ge_10 := S.le e_10
  have n_4__10 := hb_4.ne e_10
  have S := S.trans s_10
  have hb_4 := hb_4.sub s_10
  have hb_10 : Has w_10 b_10 (nodeL (List.replicate size (bareN 0))) 97 := by have := hb_10; rw [Int.toNat_natCast] at this; rw [nodeL, List.map_replicate]; exact this
  refine RL.ev (.buildS ze34 pl34 rfl rfl) rfl rfl ?_
  refine RL.alloc ze34 rfl rfl (fun b_6 w_6 e_6 z_6 hb_6 s_6 => ?_)
  have ge_6 := S.le e_6
  have n_4__6 := hb_4.ne e_6
  have n_10__6 := hb_10.ne e_6
  have S := S.trans s_6
  have hb_4 := hb_4.sub s_6
  have hb_10 := hb_10.sub s_6
  refine RL.store sh34 rfl rfl rfl hb_6 (by exact Nat.le_of_ble_eq_true rfl) (by rfl) rfl (fun w1 z1 hb_6 a1 => ?_)
  have S := S.upd a1 ge_6
  have hb_4 := hb_4.upd a1 n_4__6
  have hb_10 := hb_10.upd a1 n_10__6
  have hb_6 : Has w1 b_6 ([.slice (some ⟨b_10, 0, none⟩) size size, .slice none 0 0]) _ := hb_6.now (by kernel_rfl)
  refine RL.nil (RC.back ?_)
  refine RC.seq ?_
  refine RC.region rfl ?_
  refine RL.ev (.loadR ([.slice (some ⟨b_10, 0, none⟩) size size, .slice none 0 0]) sh34 rfl hb_6.row rfl) rfl rfl ?_
  refine RL.ev (.as (v' := .agg (tyC b_10 size size (0 : Nat) 0).toArray) (.buildS ze80 pl80 rfl rfl) (by rfl)) rfl rfl ?_
  refine RL.ev (.move rfl) rfl rfl ?_
  refine RL.call rfl ok45 (c_layH b_10 size size h2 10 0 (Nat.le_refl _) rfl (List.replicate size (bareN 0)) 0 0 l _ a c l.length w1 hap (fit_10 hfit) rfl hl6 (by rw [List.length_replicate]; omega) List.length_replicate ((Ft.of_sub (fun u s => hl.sub s)).sub S) (fun k hk e => by omega) hb_10) rfl rfl ?_
  rintro vL w2 ⟨ns, r, hv, hLy, ag1, hN1⟩
  have S := S.upd ag1 ge_10
  have hb_4 := hb_4.upd ag1 n_4__10
  have hb_6 := hb_6.upd ag1 n_10__6.symm
  rw [Nat.zero_add] at hv
  subst hv
  have hb_10 := hN1
  have hB := bld_ok h h2 hLy
  refine RL.alloc ze80 rfl rfl (fun b_7 w_7 e_7 z_7 hb_7 s_7 => ?_)
  have ge_7 := S.le e_7
  have n_4__7 := hb_4.ne e_7
  have n_10__7 := hb_10.ne e_7
  have n_6__7 := hb_6.ne e_7
  have S := S.trans s_7
  have hb_4 := hb_4.sub s_7
  have hb_10 := hb_10.sub s_7
  have hb_6 := hb_6.sub s_7
  refine RL.store sh80 rfl rfl rfl hb_7 (by exact Nat.le_of_ble_eq_true rfl) (by rfl) rfl (fun w4 z4 hb_7 a4 => ?_)
  have S := S.upd a4 ge_7
  have hb_4 := hb_4.upd a4 n_4__7
  have hb_10 := hb_10.upd a4 n_10__7
  have hb_6 := hb_6.upd a4 n_6__7
  have hb_7 : Has w4 b_7 (tyC b_10 size size (cnt 10 l : Nat) r) _ := hb_7.now (by kernel_rfl)
  refine RL.nil (RC.back ?_)
  refine RC.seq ?_
  refine RC.seq ?_
  refine RC.region rfl ?_
  refine RL.ev (.move rfl) rfl rfl ?_
  refine RL.ev (.as (.bin rfl rfl rfl) (wi64 (y := (size : Int) - 1 - ((0 : Nat) : Int)) (by omega) (by omega))) rfl rfl ?_
  refine RL.ev (.assign rfl) rfl rfl ?_
  obtain ⟨E, hE⟩ : ∃ E, E = w4.heap.size := ⟨_, rfl⟩
  have lt4 := hb_4.lt
  have lt7 := hb_7.lt
  have lt10 := hb_10.lt
  have szS := S.size
  rw [← hE] at lt4 lt7 lt10 szS
  refine RL.nil (RC.back ?_)
  refine RC.block ?_
  refine RC.loop (α := Nat × Option Addr × Nat × Nat) (fun x => [(1, .slice a l.length c), (4, .pointer (some ⟨b_4, 0, none⟩)), (5, .int .u64 0), (7, .pointer (some ⟨b_7, 0, none⟩)), (8, .int .i64 ((size : Int) - 1 - (x.1 : Int)))]) (fun x w5 => x.1 ≤ size - cnt 10 l ∧ Ows E w5 3 1 (.slice x.2.1 x.2.2.1 x.2.2.2) ((freeB size x.1).map fun x => [i6 x]) ∧ Has w5 b_4 [.slice none 0 0, .slice none 0 0] 34 ∧ Has w5 b_7 [.slice (some ⟨b_10, 0, none⟩) size size, .slice x.2.1 x.2.2.1 x.2.2.2, .int .i64 (cnt 10 l : Nat), .int .u64 r] 80 ∧ Has w5 b_10 (nodeL ns) 97 ∧ E ≤ w5.heap.size ∧ Sub w w5) (fun x => size - cnt 10 l - x.1) (0, none, 0, 0) (keep_of (by repeat (first | exact trivial | refine And.intro rfl ?_))) (⟨Nat.zero_le _, Ows.nil _ _ _ _, hb_4, hb_7, hb_10, by omega, S⟩) (fun x w5 hJ => ?_)
  obtain ⟨i, a_u, m_u, c_u⟩ := x; obtain ⟨hi, o, hb_4, hb_7, hb_10, szB, S⟩ := hJ; simp only [] at hi o hb_7; obtain rfl := o.sl.2; have hfl := freeB_len size i
  refine RC.seq ?_
  refine RC.seq ?_
  refine RC.region rfl ?_
  refine RL.ev (.move rfl) rfl rfl ?_
  refine RL.ev (.field0 fo80_1 rfl) rfl rfl ?_
  refine RL.ev (.load1 sh3 rfl (hb_7.cell rfl)) rfl rfl ?_
  refine RL.ev (.bin rfl rfl rfl) rfl rfl ?_
  refine RL.nil (RC.back ?_)
  refine RC.cond_dec rfl (fun h6 => ?_) (fun h6 => ?_)
  ·
    have d4 : ∀ k, ob (.slice a_u ((freeB size i).map fun x => [i6 x]).length c_u) = some k → k ≠ b_4 := fun k hk e => absurd (o.ge k hk).1 (by omega)
    have d7 : ∀ k, ob (.slice a_u ((freeB size i).map fun x => [i6 x]).length c_u) = some k → k ≠ b_7 := fun k hk e => absurd (o.ge k hk).1 (by omega)
    have d10 : ∀ k, ob (.slice a_u ((freeB size i).map fun x => [i6 x]).length c_u) = some k → k ≠ b_10 := fun k hk e => absurd (o.ge k hk).1 (by omega)
    refine RC.skip (RC.back ?_)
    refine RC.seq ?_
    refine RC.block ?_
    refine RC.region rfl ?_
    refine RL.ev (.field0 fo80_0 rfl) rfl rfl ?_
    refine RL.ev (.field0 fo34_1 rfl) rfl rfl ?_
    refine RL.ev (.load1 sh32 rfl (hb_7.cell rfl)) rfl rfl ?_
    refine RL.ev (.move rfl) rfl rfl ?_
    refine RL.buildSlice1 sl32 _ ze3 rfl rfl rfl rfl rfl rfl rfl (fun b_28 w_28 e_28 z_28 hb_28 s_28 => ?_)
    have ge_28 := S.le e_28
    have n_4__28 := hb_4.ne e_28
    have n_7__28 := hb_7.ne e_28
    have n_10__28 := hb_10.ne e_28
    have d_o_b_28 := o.neNew e_28
    have S := S.trans s_28
    have hb_4 := hb_4.sub s_28
    have hb_7 := hb_7.sub s_28
    have hb_10 := hb_10.sub s_28
    have szB := Nat.le_trans szB s_28.size
    have o := o.sub s_28
    have sz_29 := S.size
    have ltb_4_29 := hb_4.lt
    have ltb_7_29 := hb_7.lt
    have ltb_10_29 := hb_10.lt
    have ltb_28_29 := hb_28.lt
    refine RL.append2 (base := E) (rows := (freeB size i).map fun x => [i6 x]) (news := [_]) sl32 ze3 rfl rfl rfl rfl (.inl o) (Has.slOne hb_28) rfl (by intro r hr; rw [List.mem_singleton] at hr; subst hr; rfl) rfl (by (try simp only [List.length_map, List.length_nil, List.length_append, List.length_cons]); omega) (by (try simp only [List.length_map, List.length_nil, List.length_append, List.length_cons]); omega) (by omega) rfl rfl (fun v_29 w_29 hc_29 ho_29 ag_29 ob_29 => ?_)
    have o29 := ho_29 (.inl (by simp))
    rw [show _ ++ [_] = ((freeB size i ++ [(size : Int) - 1 - (i : Int)]).map fun x => [i6 x]) from by rw [List.map_append]; rfl] at o29
    have d_o29_b_4 := obNe ob_29 d4 hb_4.lt
    have d_o29_b_7 := obNe ob_29 d7 hb_7.lt
    have d_o29_b_10 := obNe ob_29 d10 hb_10.lt
    have S := S.agrN ag_29 (fun k e => Nat.le_trans (by omega) e.2)
    have hb_4 := hb_4.step ag_29 (fun e => d4 _ e.1 rfl)
    have hb_7 := hb_7.step ag_29 (fun e => d7 _ e.1 rfl)
    have hb_10 := hb_10.step ag_29 (fun e => d10 _ e.1 rfl)
    have szB := Nat.le_trans szB ag_29.size
    obtain ⟨a_29, c_29, rfl, k_29⟩ := o29.form
    refine RL.ev (.field0 fo80_0 rfl) rfl rfl ?_
    refine RL.ev (.field0 fo34_1 rfl) rfl rfl ?_
    refine RL.store sh32 rfl rfl rfl hb_7 (by exact Nat.le_of_ble_eq_true rfl) (by rfl) rfl (fun w7 z7 hb_7 a7 => ?_)
    have S := S.upd a7 ge_7
    have hb_4 := hb_4.upd a7 n_4__7
    have hb_10 := hb_10.upd a7 n_10__7
    have szB := Nat.le_trans szB a7.size
    have o29 := o29.updD a7 d_o29_b_7
    have hb_7 : Has w7 b_7 ([.slice (some ⟨b_10, 0, none⟩) size size, .slice a_29 ((freeB size i ++ [(size : Int) - 1 - (i : Int)]).map fun x => [i6 x]).length c_29, .int .i64 (cnt 10 l : Nat), .int .u64 r]) _ := hb_7
    refine RL.nil (RC.back ?_)
    refine RC.region rfl ?_
    refine RL.ev (.move rfl) rfl rfl ?_
    refine RL.ev (.as (.bin rfl rfl rfl) (wi64 (y := (size : Int) - 1 - ((i + 1 : Nat) : Int)) (by omega) (by omega))) rfl rfl ?_
    refine RL.ev (.assign rfl) rfl rfl ?_
    exact RL.nil (fun a ka => ⟨(i + 1, a_29, _, c_29), ⟨by omega, by rw [freeB_succ]; exact o29, hb_4, hb_7, hb_10, szB, S⟩, by omega, ka.keep (keep_of (by repeat (first | exact trivial | refine And.intro rfl ?_)))⟩)
  ·
    obtain rfl : i = size - cnt 10 l := (by omega)
    have d4 : ∀ k, ob (.slice a_u ((freeB size (size - cnt 10 l)).map fun x => [i6 x]).length c_u) = some k → k ≠ b_4 := fun k hk e => absurd (o.ge k hk).1 (by omega)
    have d7 : ∀ k, ob (.slice a_u ((freeB size (size - cnt 10 l)).map fun x => [i6 x]).length c_u) = some k → k ≠ b_7 := fun k hk e => absurd (o.ge k hk).1 (by omega)
    have d10 : ∀ k, ob (.slice a_u ((freeB size (size - cnt 10 l)).map fun x => [i6 x]).length c_u) = some k → k ≠ b_10 := fun k hk e => absurd (o.ge k hk).1 (by omega)
    refine RC.exit rfl (RC.back ?_)
    refine RC.seq ?_
    refine RC.drawD (fun k => k = b_4) [4] w5.heap.size 6 rfl rfl mxo (fun w8 s9 => ?_)
    have hNN : ∀ k, ((k = b_4) ∨ w5.heap.size ≤ k) → w.heap.size ≤ k := fun k e => e.elim (fun e => e ▸ ge_4) (fun e => Nat.le_trans S.size e)
    have ent_S := S.size
    have hN0 : ∀ k, w5.heap.size ≤ k → w.heap.size ≤ k := fun k e => Nat.le_trans S.size e
    have ltD_b_4 := hb_4.lt
    have ltD_b_7 := hb_7.lt
    have ltD_b_10 := hb_10.lt
    have ltD_o := fun k hk => (o.ge k hk).2
    have szD := Nat.le_refl w5.heap.size
    have S := S.trans s9
    have hb_4 := hb_4.sub s9
    have hb_7 := hb_7.sub s9
    have hb_10 := hb_10.sub s9
    have szB := Nat.le_trans szB s9.size
    have o := o.sub s9
    have szD := Nat.le_trans szD s9.size
    refine RD.take 0 rfl (by kernel_rfl) (by kernel_rfl) (by kernel_rfl) (fun w' s' => .field0 fo80_0 rfl) rfl rfl ?_
    refine RD.take 1 rfl (by kernel_rfl) (by kernel_rfl) (by kernel_rfl) (fun w' s' => .loadR ([.slice (some ⟨b_10, 0, none⟩) size size, .slice a_u ((freeB size (size - cnt 10 l)).map fun x => [i6 x]).length c_u]) sh34 rfl (row_pref (xs := [.slice (some ⟨b_10, 0, none⟩) size size, .slice a_u ((freeB size (size - cnt 10 l)).map fun x => [i6 x]).length c_u]) (ys := [.int .i64 (cnt 10 l : Nat), .int .u64 r]) (hb_7.step s' (fun e => e.elim (fun e => n_4__7.symm e) (fun e => Nat.not_le.2 ltD_b_7 e)))) rfl) rfl rfl ?_
    refine RD.take 2 rfl (by kernel_rfl) (by kernel_rfl) (by kernel_rfl) (fun w' s' => .field0 fo80_2 rfl) rfl rfl ?_
    refine RD.take 3 rfl (by kernel_rfl) (by kernel_rfl) (by kernel_rfl) (fun w' s' => .load1 sh36 rfl ((hb_7.step s' (fun e => e.elim (fun e => n_4__7.symm e) (fun e => Nat.not_le.2 ltD_b_7 e))).cell rfl)) rfl rfl ?_
    refine RD.all [4] (by kernel_rfl) rfl (RDs.cons rfl ?_ (RDs.nil))
    refine RL.store sh34 rfl rfl rfl hb_4 (by exact Nat.le_of_ble_eq_true rfl) (by rfl) rfl (fun w10 z10 hb_4 a10 => ?_)
    have S := S.upd a10 ge_4
    have hb_7 := hb_7.upd a10 n_4__7.symm
    have hb_10 := hb_10.upd a10 n_4__10.symm
    have szB := Nat.le_trans szB a10.size
    have o := o.updD a10 d4
    have szD := Nat.le_trans szD a10.size
    have hb_4 : Has w10 b_4 ([.slice (some ⟨b_10, 0, none⟩) size size, .slice a_u ((freeB size (size - cnt 10 l)).map fun x => [i6 x]).length c_u]) _ := hb_4.now (by kernel_rfl)
    refine RD.backW rfl (a10.mono fun k _ e => e ▸ (.inl (rfl))) ?_
    refine RD.take 5 rfl (by kernel_rfl) (by kernel_rfl) (by kernel_rfl) (fun w' s' => .assign rfl) rfl rfl ?_
    refine RD.done (by kernel_rfl) (RC.back ?_)
    refine RC.done (rs := [.cell 4 34, .tmp 5]) (vs := [_, _]) rfl rfl ⟨⟨_, rfl, .inr ⟨[.slice (some ⟨b_10, 0, none⟩) size size, .slice a_u ((freeB size (size - cnt 10 l)).map fun x => [i6 x]).length c_u], sh34, hb_4.row, rfl⟩⟩, rfl, trivial⟩ ?_
    -- end 1
    have kc := o.form
    obtain ⟨_, c', e, hk⟩ := kc
    cases e
    rw [List.length_map] at hk
    have hns := hB.len
    simp only [] at hns
    refine ⟨_, r, some ⟨b_10, 0, none⟩, a_u, size, c_u, ?_, hB, by rw [hB.len]; exact Nat.le_refl _, hk, fun N hN u hu => ⟨?_, (o.imm (N := N) (fun k hk => by have := hN k hk; omega)) u hu, hB.nok hok, ?_⟩, S⟩
    · show tup [Value.agg _, _] = _
      simp only [arV, hns, List.length_map]
      rfl
    · exact Has.sl0 (hb_10.step hu (fun e => by have := hN _ e; omega)) (fun r hr => by obtain ⟨z, _, rfl⟩ := List.mem_map.1 hr; rfl)
    · intro x hx
      have := freeB_mem.1 hx
      unfold I64
      omega
theorem c_many9 (l : List It) (a : Option Addr) (c m : Nat) (hm : m = l.length) (hap : Ap l) (hfit : ∀ x ∈ l, shL x.k l ≤ 9) (hok : ∀ z ∈ l, z.ok) (hl6 : l.length ≤ 10000) (w : World) (hl : Sl w a 2 (l.map It.cells)) :
    FC Try.prog 34 [.slice a m c] w (Val (.int .i64 (cnt 10 l : Nat)) w) := by
  subst hm
  have hc := cnt_le 10 l
  refine FC.intro Try.func34 rfl Try.ntmps34 rfl ?_
  have S := Sub.refl w
  refine RC.seq ?_
  refine RC.region rfl ?_
  refine RL.ev (.assign rfl) rfl rfl ?_
  refine RL.nil (RC.back ?_)
  refine RC.seq ?_
  refine RC.region rfl ?_
  refine RL.ev (.move rfl) rfl rfl ?_
  refine RL.ev (.len sl26 rfl) rfl rfl ?_
  refine RL.ev (.as (.bin rfl rfl rfl) (wi64 (y := ((13 * l.length : Nat) : Int)) (by omega) (by omega))) rfl rfl ?_
  refine RL.ev (.as (.bin rfl rfl rfl) (wi64 (y := ((13 * l.length + 13 : Nat) : Int)) (by omega) (by omega))) rfl rfl ?_
  refine RL.ev (.move rfl) rfl rfl ?_
  refine RL.call rfl ok18 (c_build9 (13 * l.length + 13) l a c l.length rfl hap hfit hok (by omega) (by omega) (by omega) (by omega) w (hl.sub S)) rfl rfl ?_
  rintro _ w1 ⟨B, r, na, fa, nc, fc, rfl, hB, _, _, _, s2⟩
  have S := S.trans s2
  have hBl := hB.len
  have hBf := hB.free
  refine RL.ev (.move rfl) rfl rfl ?_
  refine RL.ev (.extract rfl rfl) rfl rfl ?_
  refine RL.ev (.extract rfl rfl) rfl rfl ?_
  refine RL.alloc ze34 rfl rfl (fun b_3 w_3 e_3 z_3 hb_3 s_3 => ?_)
  have ge_3 := S.le e_3
  have S := S.trans s_3
  refine RL.store sh34 rfl rfl rfl hb_3 (by exact Nat.le_of_ble_eq_true rfl) (by rfl) rfl (fun w3 z3 hb_3 a3 => ?_)
  have S := S.upd a3 ge_3
  have hb_3 : Has w3 b_3 ([.slice na B.nodes.length nc, .slice fa B.free.length fc]) _ := hb_3.now (by kernel_rfl)
  refine RL.ev (.assign rfl) rfl rfl ?_
  refine RL.nil (RC.back ?_)
  refine RC.seq ?_
  refine RC.region rfl ?_
  refine RL.ev (.field0 fo34_0 rfl) rfl rfl ?_
  refine RL.ev (.load1 sh31 rfl (hb_3.cell rfl)) rfl rfl ?_
  refine RL.ev (.len sl31 rfl) rfl rfl ?_
  refine RL.ev (.field0 fo34_1 rfl) rfl rfl ?_
  refine RL.ev (.load1 sh32 rfl (hb_3.cell rfl)) rfl rfl ?_
  refine RL.ev (.len sl32 rfl) rfl rfl ?_
  refine RL.ev (.as (.bin rfl rfl rfl) (wi64 (y := (cnt 10 l : Nat)) (by omega) (by omega))) rfl rfl ?_
  refine RL.ev (.assign rfl) rfl rfl ?_
  refine RL.nil (RC.back ?_)
  refine RC.done (rs := [.tmp 2]) (vs := [_]) rfl rfl ⟨rfl, trivial⟩ ?_
  -- end 1
  exact ⟨rfl, S⟩
end Go.Proofs.Ytbfjobmebkhblaa
set_option linter.unusedVariables false
set_option linter.unusedSimpArgs false
namespace Go.Proofs.Ytbfjobmebkhblaa
open Go Go.XL
theorem newA_freeH (n : Nat) : (newA n).free.length = n := by simp [newA, newFree_len]
theorem tab_of {A : Ar} {r : Int} {L : List It} (hA : AOk A) (h : IsH A 10 r L) (hap : Ap L) (hl : L.length ≤ 200) : isTab A r := ⟨hA, L, h, hap, hl⟩
theorem put_twoH {A B : Ar} {r key v r' e : Int} {L : List It} (h : PutPH A r key v B r' e) (hm : isTab A r) (hL : IsH A 10 r L) (hap : Ap L) :
    (BadH L key → e = 5 ∧ r' = 0) ∧ (¬ BadH L key → e = 2 ∧ A.free.length < cnt 10 (putM L key v) ∨ e = 0 ∧ Ext A B ∧ AOk B ∧ A.free.length ≤ B.free.length + cnt 10 (putM L key v) ∧ IsH B 10 r' (putM L key v)) := by
  obtain ⟨_, h2, h3⟩ := h
  refine ⟨fun hb => ?_, fun hb => ?_⟩
  · rcases h3 L hm hL hap with h | h | h
    · exact ⟨h.2, (h2 (by omega)).2⟩
    · exact absurd hb h.1
    · exact absurd hb h.1
  · rcases h3 L hm hL hap with h | h | h
    · exact absurd h.1 hb
    · exact .inl h.2
    · exact .inr h.2
/-- a put that must go well -/
theorem PutPH.good {A B : Ar} {r key v r' e : Int} {L : List It} (h : PutPH A r key v B r' e) (hA : AOk A) (hL : IsH A 10 r L) (hap : Ap L) (hl : L.length < 9) (hk : -1073741824 ≤ key ∧ key ≤ 1073741824) (hf : 12 * (L.length + 1) ≤ A.free.length) :
    e = 0 ∧ Ext A B ∧ AOk B ∧ A.free.length ≤ B.free.length + cnt 10 (putM L key v) ∧ IsH B 10 r' (putM L key v) := by
  have hs := shL_le key L
  have hc := cnt_le 10 (putM L key v)
  have hpl := putM_len (key := key) (v := v) hap
  have hb : ¬ BadH L key := fun h => h.elim (by omega) (fun h => h.elim (by omega) (fun h => by omega))
  rcases (put_twoH h (tab_of hA hL hap (by omega)) hL hap).2 hb with h | h
  · omega
  · exact h
theorem c_alive9 (w : World) : FC Try.prog 31 [] w (Val (.bool true) w) := by
  have hok : AOk (newA 90) := newA_ok ⟨by decide, by decide⟩
  refine FC.intro Try.func31 rfl Try.ntmps31 rfl ?_
  have S := Sub.refl w
  refine RC.seq ?_
  refine RC.region rfl ?_
  refine RL.ev (.assign rfl) rfl rfl ?_
  refine RL.nil (RC.back ?_)
  refine RC.seq ?_
  refine RC.region rfl ?_
  refine RL.call rfl ok29 (c_aNew 90 ⟨by decide, by decide⟩ w) rfl rfl ?_
  rintro _ w1 ⟨na, fa, nc, fc, rfl, hnc, hfc, hn0, s2⟩
  have hA := Ft.new hn0 s2
  have S := S.trans s2
  refine RL.ev (.move rfl) rfl rfl ?_
  refine RL.ev (.extract rfl rfl) rfl rfl ?_
  refine RL.ev (.extract rfl rfl) rfl rfl ?_
  refine RL.alloc ze34 rfl rfl (fun b_1 w_1 e_1 z_1 hb_1 s_1 => ?_)
  have ge_1 := S.le e_1
  have d_hA_b_1 := hA.neNew e_1
  have S := S.trans s_1
  have hA := hA.sub s_1
  refine RL.store sh34 rfl rfl rfl hb_1 (by exact Nat.le_of_ble_eq_true rfl) (by rfl) rfl (fun w3 z3 hb_1 a3 => ?_)
  have S := S.upd a3 ge_1
  have hA := hA.updD a3 d_hA_b_1
  have hb_1 : Has w3 b_1 ([.slice na (newA 90).nodes.length nc, .slice fa (newA 90).free.length fc]) _ := hb_1.now (by kernel_rfl)
  refine RL.ev (.assign rfl) rfl rfl ?_
  refine RL.nil (RC.back ?_)
  refine RC.seq ?_
  refine RC.region rfl ?_
  refine RL.ev (.loadR ([.slice na (newA 90).nodes.length nc, .slice fa (newA 90).free.length fc]) sh34 rfl hb_1.row rfl) rfl rfl ?_
  refine RL.call rfl ok30 (c_hPut (newA 90) na fa nc fc hnc hfc 0 5 7 zu0 (by unfold I64; decide) (by unfold I64; decide) _ w3 hA) rfl rfl ?_
  rintro _ w4 ⟨s5, na', fa', nc', fc', B, r', e, M', rfl, hu, hnc', hfc', hA', hup, hpp⟩
  have d_hA'_b_1 := upNe hup d_hA_b_1 hb_1.lt
  have S := S.trans s5
  have hA := hA.sub s5
  have hb_1 := hb_1.sub s5
  obtain ⟨rfl, hx, hBok, hBf, hBT⟩ := hpp.good hok (isH_nil.2 rfl) List.Pairwise.nil (by decide) (by decide) (by rw [newA_freeH]; decide)
  refine RL.ev (.move rfl) rfl rfl ?_
  refine RL.ev (.extract rfl rfl) rfl rfl ?_
  refine RL.ev (.extract rfl rfl) rfl rfl ?_
  refine RL.ev (.extract rfl rfl) rfl rfl ?_
  refine RL.store sh34 rfl rfl rfl hb_1 (by exact Nat.le_of_ble_eq_true rfl) (by rfl) rfl (fun w6 z6 hb_1 a6 => ?_)
  have S := S.upd a6 ge_1
  have hA' := hA'.updD a6 d_hA'_b_1
  have hb_1 : Has w6 b_1 ([.slice na' B.nodes.length nc', .slice fa' B.free.length fc']) _ := hb_1.now (by kernel_rfl)
  refine RL.ev (.assign rfl) rfl rfl ?_
  refine RL.ev (.assign rfl) rfl rfl ?_
  refine RL.nil (RC.back ?_)
  refine RC.seq ?_
  refine RC.region rfl ?_
  refine RL.ev (.loadR ([.slice na' B.nodes.length nc', .slice fa' B.free.length fc']) sh34 rfl hb_1.row rfl) rfl rfl ?_
  refine RL.ev (.move rfl) rfl rfl ?_
  refine RL.call rfl ok35 (c_hGet B na' fa' nc' fc' hnc' hfc' r' 5 hu w6 hA'.now) rfl rfl ?_
  rintro _ w7 ⟨s8, v5, e5, rfl, _, hx2⟩
  have S := S.trans s8
  have hb_1 := hb_1.sub s8
  have hA' := hA'.sub s8
  have hx3 := hx2 _ (tab_of hBok hBT (List.pairwise_singleton _ _) (by decide)) hBT (List.pairwise_singleton _ _)
  have hx4 : v5 = 7 ∧ e5 = 0 := (hx3.elim (fun h => by obtain ⟨z, hz, _, hv, he⟩ := h; rw [List.mem_singleton.1 (show z ∈ [(⟨5, 7⟩ : It)] from hz)] at hv; exact ⟨hv, he⟩) (fun h => by cases h.1))
  obtain ⟨rfl, rfl⟩ := hx4
  refine RL.ev (.move rfl) rfl rfl ?_
  refine RL.ev (.extract rfl rfl) rfl rfl ?_
  refine RL.ev (.extract rfl rfl) rfl rfl ?_
  refine RL.ev (.assign rfl) rfl rfl ?_
  refine RL.ev (.assign rfl) rfl rfl ?_
  refine RL.nil (RC.back ?_)
  refine RC.seq ?_
  refine RC.region rfl ?_
  refine RL.ev (.move rfl) rfl rfl ?_
  refine RL.ev (.as (v' := .bool true) (.bin rfl rfl rfl) (congrArg Value.bool (decide_eq_true (rfl)))) rfl rfl ?_
  refine RL.ev (.move rfl) rfl rfl ?_
  refine RL.ev (.move rfl) rfl rfl ?_
  refine RL.ev (.as (v' := .bool true) (.bin rfl rfl rfl) (congrArg Value.bool (decide_eq_true (rfl)))) rfl rfl ?_
  refine RL.ev (.pick_t rfl rfl) rfl rfl ?_
  refine RL.ev (.move rfl) rfl rfl ?_
  refine RL.ev (.move rfl) rfl rfl ?_
  refine RL.ev (.as (v' := .bool true) (.bin rfl rfl rfl) (congrArg Value.bool (decide_eq_true (rfl)))) rfl rfl ?_
  refine RL.ev (.pick_t rfl rfl) rfl rfl ?_
  refine RL.ev (.move rfl) rfl rfl ?_
  refine RL.ev (.move rfl) rfl rfl ?_
  refine RL.ev (.as (v' := .bool true) (.bin rfl rfl rfl) (congrArg Value.bool (decide_eq_true (rfl)))) rfl rfl ?_
  refine RL.ev (.pick_t rfl rfl) rfl rfl ?_
  refine RL.ev (.assign rfl) rfl rfl ?_
  refine RL.nil (RC.back ?_)
  refine RC.done (rs := [.tmp 0]) (vs := [_]) rfl rfl ⟨rfl, trivial⟩ ?_
  -- end 1
  exact ⟨rfl, S⟩
end Go.Proofs.Ytbfjobmebkhblaa
set_option linter.unusedVariables false
set_option linter.unusedSimpArgs false
namespace Go.Proofs.Ytbfjobmebkhblaa
open Go Go.XL
/-- a key of one's hash -/
def twinK (key : Int) (n : Nat) : Int := (backOf (rankOf key + BitVec.ofNat 64 (n * 1048576)) - 7#64).toInt
theorem backOf_inj {x y : BitVec 64} (h : backOf x = backOf y) : x = y := by rw [← mix_back x, ← mix_back y, h]
theorem bv_sub_cancel {a b c : BitVec 64} (h : a - c = b - c) : a = b := by
  have := congrArg (· + c) h
  simpa using this
theorem bv_add_cancel {a b c : BitVec 64} (h : c + a = c + b) : a = b := by
  have := congrArg (· - c) h
  simp only [BitVec.add_comm c] at this
  simpa using this
theorem twin_inj {key : Int} {m n : Nat} (hm : m < 3000) (hn : n < 3000) (h : twinK key m = twinK key n) : m = n := by
  unfold twinK at h
  have h1 := backOf_inj (bv_sub_cancel (BitVec.toInt_inj.1 h))
  have h2 := congrArg BitVec.toNat (bv_add_cancel h1)
  rw [BitVec.toNat_ofNat, BitVec.toNat_ofNat, Nat.mod_eq_of_lt (by omega), Nat.mod_eq_of_lt (by omega)] at h2
  omega
theorem u64_sub7 (x : BitVec 64) : Value.int .u64 (IntKind.u64.wrap ((x.toNat : Int) - 7)) = u64 (x - 7#64) := by
  rw [u64_of]
  congr 1
  apply BitVec.eq_of_toNat_eq
  rw [BitVec.toNat_ofInt, BitVec.toNat_sub]
  have := x.isLt
  show (((x.toNat : Int) - 7) % 18446744073709551616).toNat = (18446744073709551616 - 7 + x.toNat) % 18446744073709551616
  omega
theorem i64_bv (x : BitVec 64) : Value.int .i64 (IntKind.i64.wrap (x.toNat : Int)) = .int .i64 x.toInt := by
  congr 1
  rw [IntKind.wrap_i64, BitVec.toInt_eq_toNat_cond]
  have := x.isLt
  split <;> omega
theorem c_twin (key : Int) (n : Nat) (hn : n ≤ 3000) (w : World) : FC Try.prog 33 [.int .i64 key, .int .i64 (n : Int)] w (Val (.int .i64 (twinK key n)) w) := by
  refine FC.intro Try.func33 rfl Try.ntmps33 rfl ?_
  have S := Sub.refl w
  refine RC.seq ?_
  refine RC.region rfl ?_
  refine RL.ev (.assign rfl) rfl rfl ?_
  refine RL.nil (RC.back ?_)
  refine RC.seq ?_
  refine RC.region rfl ?_
  refine RL.ev (.move rfl) rfl rfl ?_
  refine RL.call rfl ok44 (c_refRank key w) rfl rfl ?_
  rintro _ w1 ⟨rfl, s2⟩
  have S := S.trans s2
  refine RL.ev (.move rfl) rfl rfl ?_
  refine RL.ev (.as (.conv i3 i35 rfl) (wu64 (y := (n : Int)) (by rfl) (by omega))) rfl rfl ?_
  refine RL.ev (.as (.bin rfl rfl rfl) (wu64 (y := ((n * 1048576 : Nat) : Int)) (by omega) (by omega))) rfl rfl ?_
  refine RL.ev (.as (v' := u64 (rankOf key + BitVec.ofNat 64 (n * 1048576))) (.bin rfl rfl rfl) (by exact u64_add _ _)) rfl rfl ?_
  refine RL.call rfl ok64 (c_back (rankOf key + BitVec.ofNat 64 (n * 1048576)) w1) rfl rfl ?_
  rintro _ w3 ⟨rfl, s4⟩
  have S := S.trans s4
  refine RL.ev (.as (v' := u64 (backOf (rankOf key + BitVec.ofNat 64 (n * 1048576)) - 7#64)) (.bin rfl rfl rfl) (by exact u64_sub7 _)) rfl rfl ?_
  refine RL.ev (.as (v' := .int .i64 (twinK key n)) (.conv i35 i2 rfl) (by exact i64_bv _)) rfl rfl ?_
  refine RL.ev (.assign rfl) rfl rfl ?_
  refine RL.nil (RC.back ?_)
  refine RC.done (rs := [.tmp 4]) (vs := [_]) rfl rfl ⟨rfl, trivial⟩ ?_
  -- end 1
  exact ⟨rfl, S⟩
theorem i64_1 : I64 1 := by unfold I64; omega
def TwK (key : Int) (n : Nat) (k : Int) : Prop := k = twinK key n
theorem twk_inj {key : Int} {m n : Nat} {k : Int} (hm : m < 3000) (hn : n < 3000) (h1 : TwK key m k) (h2 : TwK key n k) : m = n := twin_inj hm hn (h1.symm.trans h2)
def oneI (k : Int) : It := ⟨k, 1⟩
theorem one_ap {P : List Int} (h : P.Nodup) : Ap (P.map oneI) := by
  unfold Ap; rw [List.pairwise_map]; rw [List.nodup_iff_pairwise_ne] at h; exact h
theorem one_put {P : List Int} {k : Int} (h : ¬ k ∈ P) : (putM (P.map oneI) k 1).Perm ((P ++ [k]).map oneI) := by
  unfold putM
  rw [delL_none fun x hx e => by obtain ⟨p, hp, rfl⟩ := List.mem_map.1 hx; exact h (e ▸ hp), List.map_append]
  exact (List.perm_append_comm (l₁ := [oneI k])).trans (List.Perm.refl _)
/-- how the puts stand -/
structure CwS (w W : World) (b5 : Nat) (A : Ar) (na fa : Option Addr) (nc fc : Nat) (r : Int) (M : Nat → Prop) (P : List Int) (pa : Option Addr) (pc : Nat) (kk : Int) (i : Nat) : Prop where
  hb : Has W b5 [.slice na A.nodes.length nc, .slice fa A.free.length fc] 34
  hA : Ft M (fun u => ArR u na fa A) W
  o : Ows w.heap.size W 2 1 (.slice pa (P.map fun x => [i6 x]).length pc) (P.map fun x => [i6 x])
  d1 : ∀ k, M k → k ≠ b5
  d2 : ∀ k, ob (.slice pa (P.map fun x => [i6 x]).length pc) = some k → k ≠ b5
  d3 : ∀ k, ob (.slice pa (P.map fun x => [i6 x]).length pc) = some k → M k → False
  S : Sub w W
  u : U64 r
  ok : AOk A
  isH : IsH A 10 r (P.map oneI)
  nc : A.nodes.length ≤ nc
  fc : A.free.length ≤ fc
  nd : P.Nodup
  tw : ∀ p ∈ P, ∃ j, j < i ∧ TwK kk j p
  rg : ∀ p ∈ P, -1073741824 ≤ p ∧ p ≤ 1073741824
set_option maxHeartbeats 4000000 in
theorem law_HamtCrowds (key : Int) (wk : (Lit.int .i64 key).wf = true) (many : Int) (wm : (Lit.int .i64 many).wf = true) (w : World) :
    FC Try.prog 9 [.int .i64 key, .int .i64 many] w (Val (.bool true) w) := by
  have hk := wfI wk
  have hm := wfI wm
  have nmm := norm_mod many 9 (by decide)
  obtain ⟨mm, hmm⟩ : ∃ mm, mm = many % 9 := ⟨_, rfl⟩
  have hmr : 0 ≤ mm ∧ mm < 9 := by omega
  obtain ⟨kk, hkk⟩ : ∃ kk, kk = key.tmod 1000 := ⟨_, rfl⟩
  refine FC.intro Try.func9 rfl Try.ntmps9 rfl ?_
  have S := Sub.refl w
  refine RC.seq ?_
  refine RC.region rfl ?_
  refine RL.ev (.assign rfl) rfl rfl ?_
  refine RL.nil (RC.back ?_)
  refine RC.seq ?_
  refine RC.region rfl ?_
  refine RL.ev (.move rfl) rfl rfl ?_
  refine RL.ev (.as (v' := .int .i64 kk) (.rem rfl rfl (by decide)) (by rw [hkk])) rfl rfl ?_
  refine RL.ev (.move rfl) rfl rfl ?_
  refine RL.ev (.rem rfl rfl (by decide)) rfl rfl ?_
  refine RL.ev (.as (.bin rfl rfl rfl) (wi64 (y := many.tmod 9 + 9) (by rfl) (by omega))) rfl rfl ?_
  refine RL.ev (.as (v' := .int .i64 mm) (.rem rfl rfl (by decide)) (by rw [nmm.2.2, hmm])) rfl rfl ?_
  refine RL.ev (.assign rfl) rfl rfl ?_
  refine RL.ev (.assign rfl) rfl rfl ?_
  refine RL.nil (RC.back ?_)
  refine RC.seq ?_
  refine RC.region rfl ?_
  refine RL.call rfl ok29 (c_aNew 512 ⟨by decide, by decide⟩ w) rfl rfl ?_
  rintro _ w1 ⟨na0, fa0, nc0, fc0, rfl, hnc0, hfc0, hn00, s2⟩
  have hA := Ft.new hn00 s2
  have S := S.trans s2
  refine RL.ev (.move rfl) rfl rfl ?_
  refine RL.ev (.extract rfl rfl) rfl rfl ?_
  refine RL.ev (.extract rfl rfl) rfl rfl ?_
  refine RL.alloc ze34 rfl rfl (fun b_5 w_5 e_5 z_5 hb_5 s_5 => ?_)
  have ge_5 := S.le e_5
  have d_hA_b_5 := hA.neNew e_5
  have S := S.trans s_5
  have hA := hA.sub s_5
  refine RL.store sh34 rfl rfl rfl hb_5 (by exact Nat.le_of_ble_eq_true rfl) (by rfl) rfl (fun w3 z3 hb_5 a3 => ?_)
  have S := S.upd a3 ge_5
  have hA := hA.updD a3 d_hA_b_5
  have hb_5 : Has w3 b_5 ([.slice na0 (newA 512).nodes.length nc0, .slice fa0 (newA 512).free.length fc0]) _ := hb_5.now (by kernel_rfl)
  refine RL.ev (.assign rfl) rfl rfl ?_
  refine RL.nil (RC.back ?_)
  refine RC.seq ?_
  refine RC.region rfl ?_
  refine RL.ev (.assign rfl) rfl rfl ?_
  refine RL.nil (RC.back ?_)
  refine RC.seq ?_
  refine RC.region rfl ?_
  refine RL.ev (.assign rfl) rfl rfl ?_
  refine RL.nil (RC.back ?_)
  refine RC.seq ?_
  refine RC.seq ?_
  refine RC.region rfl ?_
  refine RL.ev (.assign rfl) rfl rfl ?_
  refine RL.nil (RC.back ?_)
  refine RC.block ?_
  refine RC.loop (α := Nat × (Ar × Option Addr × Option Addr × Nat × Nat) × Int × (Nat → Prop) × (List Int × Option Addr × Nat)) (fun x => [(0, .int .i64 kk), (1, .int .i64 mm), (5, .pointer (some ⟨b_5, 0, none⟩)), (6, .int .i64 0), (7, .int .u64 x.2.2.1), (8, .slice x.2.2.2.2.2.1 (x.2.2.2.2.1.map fun x => [i6 x]).length x.2.2.2.2.2.2), (9, .int .i64 (x.1 : Int))]) (fun x w4 => (x.1 ≤ 3000 ∧ (x.2.2.2.2.1.length : Int) ≤ mm) ∧ CwS w w4 b_5 x.2.1.1 x.2.1.2.1 x.2.1.2.2.1 x.2.1.2.2.2.1 x.2.1.2.2.2.2 x.2.2.1 x.2.2.2.1 x.2.2.2.2.1 x.2.2.2.2.2.1 x.2.2.2.2.2.2 kk x.1) (fun x => 3000 - x.1) (0, (newA 512, na0, fa0, nc0, fc0), 0, _, ([], none, 0)) (keep_of (by repeat (first | exact trivial | refine And.intro rfl ?_))) (⟨⟨Nat.zero_le _, hmr.1⟩, ⟨hb_5, hA, Ows.nil _ _ _ _, d_hA_b_5, fun k hk => obNil hk, fun k hk => obNil hk, S, zu0, newA_ok ⟨by decide, by decide⟩, isH_nil.2 rfl, hnc0, hfc0, List.nodup_nil, fun p h => (by cases h), fun p h => (by cases h)⟩⟩) (fun x w4 hJ => ?_)
  obtain ⟨i, ⟨A, na, fa, nc, fc⟩, r, M, ⟨P, pa, pc⟩⟩ := x; obtain ⟨⟨hi, hPl⟩, ⟨hb_5, hA, oP, d1, d2, d3, S, hu, hok, hT, hnc, hfc, hnd, htw, hrg⟩⟩ := hJ; simp only [] at hi hPl hb_5 hA oP d1 d2 d3 hu hok hT hnc hfc hnd htw hrg; have hap := one_ap hnd; have hmost := hok.most; have hLl : (P.map oneI).length = P.length := List.length_map _
  refine RC.seq ?_
  refine RC.seq ?_
  refine RC.region rfl ?_
  refine RL.ev (.move rfl) rfl rfl ?_
  refine RL.ev (.bin rfl rfl rfl) rfl rfl ?_
  refine RL.ev (.move rfl) rfl rfl ?_
  refine RL.split 32 rfl (fun h5 => ?_) (fun h5 => ?_)
  ·
    have h32 := h5
    refine RL.ev (.move rfl) rfl rfl ?_
    refine RL.ev (.as (v' := .int .i64 (P.length : Int)) (.len sl25 rfl) (by rw [List.length_map])) rfl rfl ?_
    refine RL.ev (.move rfl) rfl rfl ?_
    refine RL.ev (.bin rfl rfl rfl) rfl rfl ?_
    refine RL.ev (.pick_t rfl rfl) rfl rfl ?_
    refine RL.nil (RC.back ?_)
    refine RC.cond_dec rfl (fun h6 => ?_) (fun h6 => ?_)
    ·
      have h37 := h6
      refine RC.skip (RC.back ?_)
      refine RC.seq ?_
      refine RC.block ?_
      refine RC.seq ?_
      refine RC.region rfl ?_
      refine RL.ev (.move rfl) rfl rfl ?_
      refine RL.ev (.move rfl) rfl rfl ?_
      refine RL.call rfl ok33 (c_twin kk i hi w4) rfl rfl ?_
      rintro _ w7 ⟨rfl, s8⟩
      have S := S.trans s8
      have hb_5 := hb_5.sub s8
      have hA := hA.sub s8
      have oP := oP.sub s8
      obtain ⟨kt, hkt0⟩ : ∃ kt, kt = twinK kk i := ⟨_, rfl⟩
      have hkt : TwK kk i kt := hkt0
      rw [← hkt0]
      clear hkt0
      refine RL.ev (.assign rfl) rfl rfl ?_
      refine RL.nil (RC.back ?_)
      refine RC.seq ?_
      refine RC.seq ?_
      refine RC.region rfl ?_
      refine RL.ev (.move rfl) rfl rfl ?_
      refine RL.ev (.bin rfl rfl rfl) rfl rfl ?_
      refine RL.ev (.move rfl) rfl rfl ?_
      refine RL.split 45 rfl (fun h9 => ?_) (fun h9 => ?_)
      ·
        have h45 := h9
        refine RL.off rfl rfl ?_
        refine RL.off rfl rfl ?_
        refine RL.ev (.pick_t rfl rfl) rfl rfl ?_
        refine RL.nil (RC.back ?_)
        refine RC.cond_t rfl ?_
        refine RC.exit rfl (RC.back ?_)
        refine RC.region rfl ?_
        refine RL.ev (.move rfl) rfl rfl ?_
        refine RL.ev (.as (.bin rfl rfl rfl) (wi64 (y := ((i + 1 : Nat) : Int)) (by omega) (by omega))) rfl rfl ?_
        refine RL.ev (.assign rfl) rfl rfl ?_
        exact RL.nil (fun a ka => ⟨(i + 1, (A, na, fa, nc, fc), r, M, (P, pa, pc)), ⟨⟨by omega, hPl⟩, ⟨hb_5, hA, oP, d1, d2, d3, S, hu, hok, hT, hnc, hfc, hnd, fun p hp => by obtain ⟨j, hj, e⟩ := htw p hp; exact ⟨j, by omega, e⟩, hrg⟩⟩, by omega, ka.keep (keep_of (by repeat (first | exact trivial | refine And.intro rfl ?_)))⟩)
      ·
        have h45 := h9
        refine RL.ev (.move rfl) rfl rfl ?_
        refine RL.ev (.bin rfl rfl rfl) rfl rfl ?_
        refine RL.ev (.pick_f rfl rfl) rfl rfl ?_
        refine RL.nil (RC.back ?_)
        refine RC.cond_dec rfl (fun h10 => ?_) (fun h10 => ?_)
        ·
          have h48 := h10
          refine RC.exit rfl (RC.back ?_)
          refine RC.region rfl ?_
          refine RL.ev (.move rfl) rfl rfl ?_
          refine RL.ev (.as (.bin rfl rfl rfl) (wi64 (y := ((i + 1 : Nat) : Int)) (by omega) (by omega))) rfl rfl ?_
          refine RL.ev (.assign rfl) rfl rfl ?_
          exact RL.nil (fun a ka => ⟨(i + 1, (A, na, fa, nc, fc), r, M, (P, pa, pc)), ⟨⟨by omega, hPl⟩, ⟨hb_5, hA, oP, d1, d2, d3, S, hu, hok, hT, hnc, hfc, hnd, fun p hp => by obtain ⟨j, hj, e⟩ := htw p hp; exact ⟨j, by omega, e⟩, hrg⟩⟩, by omega, ka.keep (keep_of (by repeat (first | exact trivial | refine And.intro rfl ?_)))⟩)
        ·
          have h48 := h10
          have hnk : ¬ kt ∈ P := (fun h => by obtain ⟨j, hj, e⟩ := htw kt h; have := twk_inj (by omega) (by omega) hkt e; omega)
          have hki : I64 kt := (by unfold I64; omega)
          refine RC.skip (RC.back ?_)
          refine RC.seq ?_
          refine RC.region rfl ?_
          refine RL.ev (.loadR ([.slice na A.nodes.length nc, .slice fa A.free.length fc]) sh34 rfl hb_5.row rfl) rfl rfl ?_
          refine RL.ev (.move rfl) rfl rfl ?_
          refine RL.ev (.move rfl) rfl rfl ?_
          refine RL.call rfl ok30 (c_hPut A na fa nc fc hnc hfc r kt 1 hu hki (by unfold I64; decide) M w7 hA) rfl rfl ?_
          rintro _ w11 ⟨s12, na', fa', nc', fc', A', r', e', M', rfl, hu', hnc', hfc', hA', hup, hpp⟩
          have d_hA'_b_5 := upNe hup d1 hb_5.lt
          have dd_oP_hA' := upDD hup d3 (fun k hk => (oP.ge k hk).2)
          have d_hA'_oP := upDD hup d3 (fun k hk => (oP.ge k hk).2)
          have S := S.trans s12
          have hb_5 := hb_5.sub s12
          have hA := hA.sub s12
          have oP := oP.sub s12
          have hshl := shL_le kt (P.map oneI)
          have hP1 := (put_twoH hpp (tab_of hok hT hap (by omega)) hT hap).2 (fun h => h.elim (by omega) (fun h => h.elim (by omega) (fun h => by omega)))
          refine RL.ev (.move rfl) rfl rfl ?_
          refine RL.ev (.extract rfl rfl) rfl rfl ?_
          refine RL.ev (.extract rfl rfl) rfl rfl ?_
          refine RL.ev (.extract rfl rfl) rfl rfl ?_
          refine RL.alloc ze34 rfl rfl (fun b_11 w_11 e_11 z_11 hb_11 s_11 => ?_)
          have ge_11 := S.le e_11
          have n_5__11 := hb_5.ne e_11
          have d_hA_b_11 := hA.neNew e_11
          have d_oP_b_11 := oP.neNew e_11
          have d_hA'_b_11 := hA'.neNew e_11
          have S := S.trans s_11
          have hb_5 := hb_5.sub s_11
          have hA := hA.sub s_11
          have oP := oP.sub s_11
          have hA' := hA'.sub s_11
          refine RL.store sh34 rfl rfl rfl hb_11 (by exact Nat.le_of_ble_eq_true rfl) (by rfl) rfl (fun w13 z13 hb_11 a13 => ?_)
          have S := S.upd a13 ge_11
          have hb_5 := hb_5.upd a13 n_5__11
          have hA := hA.updD a13 d_hA_b_11
          have oP := oP.updD a13 d_oP_b_11
          have hA' := hA'.updD a13 d_hA'_b_11
          have hb_11 : Has w13 b_11 ([.slice na' A'.nodes.length nc', .slice fa' A'.free.length fc']) _ := hb_11.now (by kernel_rfl)
          refine RL.ev (.assign rfl) rfl rfl ?_
          refine RL.ev (.assign rfl) rfl rfl ?_
          refine RL.nil (RC.back ?_)
          refine RC.seq ?_
          refine RC.seq ?_
          refine RC.region rfl ?_
          refine RL.ev (.move rfl) rfl rfl ?_
          refine RL.ev (.bin rfl rfl rfl) rfl rfl ?_
          refine RL.nil (RC.back ?_)
          refine RC.cond_dec rfl (fun h14 => ?_) (fun h14 => ?_)
          ·
            have h58 := h14
            have hfull := hP1.resolve_right (fun h => h58 h.1)
            refine RC.seq ?_
            refine RC.drawD (fun k => False) [] w13.heap.size 20 rfl rfl mxo (fun w15 s16 => ?_)
            have hNN : ∀ k, ((False) ∨ w13.heap.size ≤ k) → w.heap.size ≤ k := fun k e => e.elim (fun e => e.elim) (fun e => Nat.le_trans S.size e)
            have ent_S := S.size
            have hN0 : ∀ k, w13.heap.size ≤ k → w.heap.size ≤ k := fun k e => Nat.le_trans S.size e
            have ltD_b_5 := hb_5.lt
            have ltD_hA := fun k hk => (hA.ge k hk).2
            have ltD_oP := fun k hk => (oP.ge k hk).2
            have ltD_hA' := fun k hk => (hA'.ge k hk).2
            have ltD_b_11 := hb_11.lt
            have szD := Nat.le_refl w13.heap.size
            have S := S.trans s16
            have hb_5 := hb_5.sub s16
            have hA := hA.sub s16
            have oP := oP.sub s16
            have hA' := hA'.sub s16
            have hb_11 := hb_11.sub s16
            have szD := Nat.le_trans szD s16.size
            refine RD.all [0] (by kernel_rfl) rfl (RDs.cons rfl ?_ (RDs.nil))
            refine RL.call rfl ok31 (c_alive9 w15) rfl rfl ?_
            rintro _ w17 ⟨rfl, s18⟩
            have S := S.trans s18
            have hb_5 := hb_5.sub s18
            have hA := hA.sub s18
            have oP := oP.sub s18
            have hA' := hA'.sub s18
            have hb_11 := hb_11.sub s18
            have szD := Nat.le_trans szD s18.size
            refine RD.back s18.agr ?_
            refine RD.take 1 rfl (by kernel_rfl) (by kernel_rfl) (by kernel_rfl) (fun w' s' => .move rfl) rfl rfl ?_
            refine RD.take 2 rfl (by kernel_rfl) (by kernel_rfl) (by kernel_rfl) (fun w' s' => .move rfl) rfl rfl ?_
            refine RD.take 3 rfl (by kernel_rfl) (by kernel_rfl) (by kernel_rfl) (fun w' s' => .as (v' := .bool true) (.bin rfl rfl rfl) (congrArg Value.bool (decide_eq_true (hfull.1)))) rfl rfl ?_
            refine RD.take 4 rfl (by kernel_rfl) (by kernel_rfl) (by kernel_rfl) (fun w' s' => .pick_t rfl rfl) rfl rfl ?_
            refine RD.take 5 rfl (by kernel_rfl) (by kernel_rfl) (by kernel_rfl) (fun w' s' => .move rfl) rfl rfl ?_
            refine RD.take 6 rfl (by kernel_rfl) (by kernel_rfl) (by kernel_rfl) (fun w' s' => .field0 fo34_1 rfl) rfl rfl ?_
            refine RD.take 7 rfl (by kernel_rfl) (by kernel_rfl) (by kernel_rfl) (fun w' s' => .load1 sh32 rfl ((hb_5.step s' (fun e => e.elim (fun e => e.elim) (fun e => Nat.not_le.2 ltD_b_5 e))).cell rfl)) rfl rfl ?_
            refine RD.take 8 rfl (by kernel_rfl) (by kernel_rfl) (by kernel_rfl) (fun w' s' => .len sl32 rfl) rfl rfl ?_
            refine RD.take 9 rfl (by kernel_rfl) (by kernel_rfl) (by kernel_rfl) (fun w' s' => .loadR ([.slice na A.nodes.length nc, .slice fa A.free.length fc]) sh34 rfl (hb_5.step s' (fun e => e.elim (fun e => e.elim) (fun e => Nat.not_le.2 ltD_b_5 e))).row rfl) rfl rfl ?_
            refine RD.take 10 rfl (by kernel_rfl) (by kernel_rfl) (by kernel_rfl) (fun w' s' => .move rfl) rfl rfl ?_
            refine RD.take 12 rfl (by kernel_rfl) (by kernel_rfl) (by kernel_rfl) (fun w' s' => .move rfl) rfl rfl ?_
            refine RD.all [11] (by kernel_rfl) rfl (RDs.cons rfl ?_ (RDs.nil))
            refine RL.call rfl ok28 (c_row9 A na fa nc fc (by omega) r hu w17 hA.now) rfl rfl ?_
            rintro vR w19 ⟨s20, ra, rc, hvr, hl, _, hRl⟩
            have S := S.trans s20
            have hb_5 := hb_5.sub s20
            have hA := hA.sub s20
            have oP := oP.sub s20
            have hA' := hA'.sub s20
            have hb_11 := hb_11.sub s20
            have szD := Nat.le_trans szD s20.size
            obtain ⟨_, hRp⟩ := readT_tab hT hap
            obtain ⟨R, hR⟩ : ∃ R, (readT A r).2.1 = R := ⟨_, rfl⟩
            rw [hR] at hvr hl hRp hRl
            subst hvr
            have hRn := hRp.length_eq
            obtain ⟨W1, S1, hl⟩ : ∃ W1, Sub W1 w19 ∧ Sl W1 ra 2 (R.map It.cells) := ⟨_, Sub.refl _, hl⟩
            refine RD.back s20.agr ?_
            refine RD.all [13] (by kernel_rfl) rfl (RDs.cons rfl ?_ (RDs.nil))
            refine RL.call rfl ok16 (c_refPut R ra rc _ rfl kt 1 w19 (hl.sub S1) (by omega)) rfl rfl ?_
            rintro _ w21 ⟨qa, qc, rfl, o6, s22⟩
            have S := S.trans s22
            have hb_5 := hb_5.sub s22
            have hA := hA.sub s22
            have oP := oP.sub s22
            have hA' := hA'.sub s22
            have hb_11 := hb_11.sub s22
            have szD := Nat.le_trans szD s22.size
            have S1 := S1.trans s22
            have pq := (putR_putM R kt 1).trans (putM_perm hRp)
            have hql := pq.length_eq
            have hpl := putM_len (key := kt) (v := 1) hap
            have hcq := cnt_perm (k := 10) pq
            have hcl := cnt_le 10 (putR R kt 1)
            obtain ⟨W6, S6, hq⟩ : ∃ W6, Sub W6 w21 ∧ Sl W6 qa 2 ((putR R kt 1).map It.cells) := ⟨_, Sub.refl _, o6.sl.1⟩
            refine RD.back s22.agr ?_
            refine RD.all [14] (by kernel_rfl) rfl (RDs.cons rfl ?_ (RDs.nil))
            refine RL.call rfl ok34 (c_many9 (putR R kt 1) qa qc _ (List.length_map _) (hap.put.perm pq.symm) (fun x _ => Nat.le_trans (shL_le _ _) (by omega)) (fun z hz => (List.mem_cons.1 (pq.mem_iff.1 hz)).elim (fun e => e ▸ ⟨hki, i64_1⟩) (fun h => by obtain ⟨p, hp, rfl⟩ := List.mem_map.1 (delL_mem.1 h).1; have := hrg p hp; exact ⟨by unfold I64; show _ ≤ p ∧ p ≤ _; omega, i64_1⟩)) (by omega) w21 (hq.sub S6)) rfl rfl ?_
            rintro _ w23 ⟨rfl, s24⟩
            have S := S.trans s24
            have hb_5 := hb_5.sub s24
            have hA := hA.sub s24
            have oP := oP.sub s24
            have hA' := hA'.sub s24
            have hb_11 := hb_11.sub s24
            have szD := Nat.le_trans szD s24.size
            have S1 := S1.trans s24
            have S6 := S6.trans s24
            refine RD.back s24.agr ?_
            refine RD.take 15 rfl (by kernel_rfl) (by kernel_rfl) (by kernel_rfl) (fun w' s' => .as (.bin rfl rfl rfl) (wi64 (y := ((2 * cnt 10 (putR R kt 1) : Nat) : Int)) (by omega) (by omega))) rfl rfl ?_
            refine RD.take 16 rfl (by kernel_rfl) (by kernel_rfl) (by kernel_rfl) (fun w' s' => .as (.bin rfl rfl rfl) (wi64 (y := ((2 * cnt 10 (putR R kt 1) + 1 : Nat) : Int)) (by omega) (by omega))) rfl rfl ?_
            refine RD.take 17 rfl (by kernel_rfl) (by kernel_rfl) (by kernel_rfl) (fun w' s' => .as (v' := .bool true) (.bin rfl rfl rfl) (congrArg Value.bool (decide_eq_true (by omega)))) rfl rfl ?_
            refine RD.take 18 rfl (by kernel_rfl) (by kernel_rfl) (by kernel_rfl) (fun w' s' => .pick_t rfl rfl) rfl rfl ?_
            refine RD.take 19 rfl (by kernel_rfl) (by kernel_rfl) (by kernel_rfl) (fun w' s' => .assign rfl) rfl rfl ?_
            refine RD.done (by kernel_rfl) (RC.back ?_)
            refine RC.done (rs := [.tmp 4]) (vs := [_]) rfl rfl ⟨rfl, trivial⟩ ?_
            -- end 1
            exact ⟨rfl, S⟩
          ·
            have h58 := h14
            obtain ⟨he0, hE, hok', hf', hT'⟩ := hP1.resolve_left (fun h => by omega)
            have hT2 := hT'.perm (one_put hnk)
            refine RC.skip (RC.back ?_)
            refine RC.drawD (fun k => k = b_5 ∨ ob (.slice pa (P.map fun x => [i6 x]).length pc) = some k) [6, 5] w13.heap.size 9 rfl rfl mxo (fun w25 s26 => ?_)
            have hNN : ∀ k, ((k = b_5 ∨ ob (.slice pa (P.map fun x => [i6 x]).length pc) = some k) ∨ w13.heap.size ≤ k) → w.heap.size ≤ k := fun k e => e.elim (fun e => e.elim (fun e => e ▸ ge_5) (fun e => Nat.le_trans (by omega) (oP.ge k e).1)) (fun e => Nat.le_trans S.size e)
            have ent_S := S.size
            have hN0 : ∀ k, w13.heap.size ≤ k → w.heap.size ≤ k := fun k e => Nat.le_trans S.size e
            have ltD_b_5 := hb_5.lt
            have ltD_hA := fun k hk => (hA.ge k hk).2
            have ltD_oP := fun k hk => (oP.ge k hk).2
            have ltD_hA' := fun k hk => (hA'.ge k hk).2
            have ltD_b_11 := hb_11.lt
            have szD := Nat.le_refl w13.heap.size
            have S := S.trans s26
            have hb_5 := hb_5.sub s26
            have hA := hA.sub s26
            have oP := oP.sub s26
            have hA' := hA'.sub s26
            have hb_11 := hb_11.sub s26
            have szD := Nat.le_trans szD s26.size
            refine RD.take 0 rfl (by kernel_rfl) (by kernel_rfl) (by kernel_rfl) (fun w' s' => .loadR ([.slice na' A'.nodes.length nc', .slice fa' A'.free.length fc']) sh34 rfl (hb_11.step s' (fun e => e.elim (fun e => e.elim (fun e => n_5__11.symm e) (fun e => d_oP_b_11 _ e rfl)) (fun e => Nat.not_le.2 ltD_b_11 e))).row rfl) rfl rfl ?_
            refine RD.take 1 rfl (by kernel_rfl) (by kernel_rfl) (by kernel_rfl) (fun w' s' => .move rfl) rfl rfl ?_
            refine RD.take 2 rfl (by kernel_rfl) (by kernel_rfl) (by kernel_rfl) (fun w' s' => .move rfl) rfl rfl ?_
            refine RD.take 3 rfl (by kernel_rfl) (by kernel_rfl) (by kernel_rfl) (fun w' s' => .move rfl) rfl rfl ?_
            refine RD.all [4] (by kernel_rfl) rfl (RDs.cons rfl ?_ (RDs.nil))
            refine RL.buildSlice1 sl25 _ ze2 rfl rfl rfl rfl rfl rfl rfl (fun b_82 w_82 e_82 z_82 hb_82 s_82 => ?_)
            have fr_b_82 : w13.heap.size ≤ b_82 := by rw [e_82]; exact szD
            have ge_82 := S.le e_82
            have n_5__82 := hb_5.ne e_82
            have n_11__82 := hb_11.ne e_82
            have d_hA_b_82 := hA.neNew e_82
            have d_oP_b_82 := oP.neNew e_82
            have d_hA'_b_82 := hA'.neNew e_82
            have S := S.trans s_82
            have hb_5 := hb_5.sub s_82
            have hA := hA.sub s_82
            have oP := oP.sub s_82
            have hA' := hA'.sub s_82
            have hb_11 := hb_11.sub s_82
            have szD := Nat.le_trans szD s_82.size
            refine RD.back s_82.agr ?_
            refine RD.all [5] (by kernel_rfl) rfl (RDs.cons rfl ?_ (RDs.nil))
            have sz_83 := S.size
            have ltb_5_83 := hb_5.lt
            have ltb_11_83 := hb_11.lt
            have ltb_82_83 := hb_82.lt
            refine RL.append2 (base := w.heap.size) (rows := P.map fun x => [i6 x]) (news := [_]) sl25 ze2 rfl rfl rfl rfl (.inl oP) (Has.slOne hb_82) rfl (by intro r hr; rw [List.mem_singleton] at hr; subst hr; rfl) rfl (by (try simp only [List.length_map, List.length_nil, List.length_append, List.length_cons]); omega) (by (try simp only [List.length_map, List.length_nil, List.length_append, List.length_cons]); omega) (by omega) rfl rfl (fun v_83 w_83 hc_83 ho_83 ag_83 ob_83 => ?_)
            have o83 := ho_83 (.inl (by simp))
            rw [show _ ++ [_] = ((P ++ [kt]).map fun x => [i6 x]) from by rw [List.map_append]; rfl] at o83
            have d_o83_b_5 := obNe ob_83 d2 hb_5.lt
            have dd_o83_hA := obDF ob_83 d3 (fun k hk => (hA.ge k hk).2)
            have dd_o83_hA' := obDF ob_83 d_hA'_oP (fun k hk => (hA'.ge k hk).2)
            have d_o83_b_11 := obNe ob_83 d_oP_b_11 hb_11.lt
            have S := S.agrN ag_83 (fun k e => Nat.le_trans (by omega) e.2)
            have hb_5 := hb_5.step ag_83 (fun e => d2 _ e.1 rfl)
            have hA := hA.step ag_83 (fun k hk e => d3 k e.1 hk)
            have hA' := hA'.step ag_83 (fun k hk e => d_hA'_oP k e.1 hk)
            have hb_11 := hb_11.step ag_83 (fun e => d_oP_b_11 _ e.1 rfl)
            have szD := Nat.le_trans szD ag_83.size
            obtain ⟨a_83, c_83, rfl, k_83⟩ := o83.form
            refine RD.backW rfl (ag_83.mono fun k _ e => .inl (.inr (e.1))) ?_
            refine RD.all [6] (by kernel_rfl) rfl (RDs.cons rfl ?_ (RDs.nil))
            refine RL.store sh34 rfl rfl rfl hb_5 (by exact Nat.le_of_ble_eq_true rfl) (by rfl) rfl (fun w27 z27 hb_5 a27 => ?_)
            have S := S.upd a27 ge_5
            have hA := hA.updD a27 d1
            have hA' := hA'.updD a27 d_hA'_b_5
            have hb_11 := hb_11.upd a27 n_5__11.symm
            have szD := Nat.le_trans szD a27.size
            have o83 := o83.updD a27 d_o83_b_5
            have hb_5 : Has w27 b_5 ([.slice na' A'.nodes.length nc', .slice fa' A'.free.length fc']) _ := hb_5.now (by kernel_rfl)
            refine RD.backW rfl (a27.mono fun k _ e => e ▸ (.inl (.inl rfl))) ?_
            refine RD.take 7 rfl (by kernel_rfl) (by kernel_rfl) (by kernel_rfl) (fun w' s' => .assign rfl) rfl rfl ?_
            refine RD.take 8 rfl (by kernel_rfl) (by kernel_rfl) (by kernel_rfl) (fun w' s' => .assign rfl) rfl rfl ?_
            refine RD.done (by kernel_rfl) (RC.back ?_)
            refine RC.region rfl ?_
            refine RL.ev (.move rfl) rfl rfl ?_
            refine RL.ev (.as (.bin rfl rfl rfl) (wi64 (y := ((i + 1 : Nat) : Int)) (by omega) (by omega))) rfl rfl ?_
            refine RL.ev (.assign rfl) rfl rfl ?_
            exact RL.nil (fun a ka => ⟨(i + 1, (A', na', fa', nc', fc'), r', M', (P ++ [kt], a_83, c_83)), ⟨⟨by omega, by rw [List.length_append, List.length_singleton]; omega⟩, ⟨hb_5, hA', o83, d_hA'_b_5, d_o83_b_5, dd_o83_hA', S, hu', hok', hT2, hnc', hfc', List.nodup_append.2 ⟨hnd, by simp, fun a ha c hc e => by rw [List.mem_singleton.1 hc] at e; exact hnk (e ▸ ha)⟩, fun p hp => (List.mem_append.1 hp).elim (fun hp => by obtain ⟨j, hj, e⟩ := htw p hp; exact ⟨j, by omega, e⟩) (fun e => ⟨i, by omega, List.mem_singleton.1 e ▸ hkt⟩), fun p hp => (List.mem_append.1 hp).elim (hrg p) (fun e => by rw [List.mem_singleton.1 e]; omega)⟩⟩, by omega, ka.keep (keep_of (by repeat (first | exact trivial | refine And.intro rfl ?_)))⟩)
    ·
      have h37 := h6
      obtain ⟨Wi, Si, hWi⟩ : ∃ W, Sub W w4 ∧ W = w4 := ⟨_, Sub.refl _, rfl⟩
      rw [← hWi] at hb_5 hA oP
      refine RC.exit rfl (RC.back ?_)
      refine RC.seq ?_
      refine RC.seq ?_
      refine RC.region rfl ?_
      refine RL.ev (.move rfl) rfl rfl ?_
      refine RL.ev (.as (v' := .int .i64 (P.length : Int)) (.len sl25 rfl) (by rw [List.length_map])) rfl rfl ?_
      refine RL.ev (.move rfl) rfl rfl ?_
      refine RL.nil (RC.back ?_)
      refine RC.block ?_
      refine RC.loop (α := Nat) (fun j => [(5, .pointer (some ⟨b_5, 0, none⟩)), (6, .int .i64 0), (7, .int .u64 r), (8, .slice pa (P.map fun x => [i6 x]).length pc), (84, .slice pa (P.map fun x => [i6 x]).length pc), (85, .int .i64 (P.length : Int)), (86, .int .i64 (j : Int))]) (fun j w28 => j ≤ P.length ∧ Sub Wi w28 ∧ Sub w w28) (fun j => P.length - j) 0 (keep_of (by repeat (first | exact trivial | refine And.intro rfl ?_))) (⟨Nat.zero_le _, Si, S⟩) (fun j w28 hJ => ?_)
      obtain ⟨hj, Si, S⟩ := hJ; have hb_5 := hb_5.sub Si; have hA := hA.sub Si; have h8 := oP.sl.1.sub Si
      refine RC.seq ?_
      refine RC.region rfl ?_
      refine RL.ev (.bin rfl rfl rfl) rfl rfl ?_
      refine RL.nil (RC.back ?_)
      refine RC.seq ?_
      refine RC.cond_dec rfl (fun h29 => ?_) (fun h29 => ?_)
      ·
        obtain ⟨p, hp⟩ := getSome (l := P) (i := j) (by omega)
        refine RC.skip (RC.back ?_)
        refine RC.seq ?_
        refine RC.block ?_
        refine RC.seq ?_
        refine RC.region rfl ?_
        refine RL.ev (.indexS sl25 rfl rfl (by rw [List.length_map]; omega) (h8.is (i := 0) (by simp only [List.length_map, List.length_cons, List.length_nil]; omega))) rfl rfl ?_
        refine RL.ev (.load1 sh2 rfl (h8.one (enc := i6) (i := j) hp)) rfl rfl ?_
        refine RL.ev (.assign rfl) rfl rfl ?_
        refine RL.nil (RC.back ?_)
        refine RC.seq ?_
        refine RC.region rfl ?_
        refine RL.ev (.loadR ([.slice na A.nodes.length nc, .slice fa A.free.length fc]) sh34 rfl hb_5.row rfl) rfl rfl ?_
        refine RL.ev (.move rfl) rfl rfl ?_
        refine RL.ev (.move rfl) rfl rfl ?_
        refine RL.call rfl ok35 (c_hGet A na fa nc fc hnc hfc r p hu w28 hA.now) rfl rfl ?_
        rintro _ w30 ⟨s31, x5, e5, rfl, _, hg⟩
        have S := S.trans s31
        have Si := Si.trans s31
        have hb_5 := hb_5.sub s31
        have hA := hA.sub s31
        obtain ⟨_, _, _, _, he5⟩ := (hg _ (tab_of hok hT hap (by omega)) hT hap).resolve_right (fun h => by rw [show hasK (P.map oneI) p = true from hasK_iff.2 ⟨oneI p, List.mem_map.2 ⟨p, List.mem_of_getElem? hp, rfl⟩, rfl⟩] at h; cases h.1)
        refine RL.ev (.move rfl) rfl rfl ?_
        refine RL.ev (.extract rfl rfl) rfl rfl ?_
        refine RL.ev (.extract rfl rfl) rfl rfl ?_
        refine RL.ev (.assign rfl) rfl rfl ?_
        refine RL.ev (.assign rfl) rfl rfl ?_
        refine RL.nil (RC.back ?_)
        refine RC.seq ?_
        refine RC.region rfl ?_
        refine RL.ev (.move rfl) rfl rfl ?_
        refine RL.ev (.as (v' := .bool false) (.bin rfl rfl rfl) (congrArg Value.bool (decide_eq_false (fun h => h he5)))) rfl rfl ?_
        refine RL.nil (RC.back ?_)
        refine RC.cond_f rfl ?_
        refine RC.skip (RC.back ?_)
        refine RC.region rfl ?_
        refine RL.ev (.as (.bin rfl rfl rfl) (wi64 (y := ((j + 1 : Nat) : Int)) (by omega) (by omega))) rfl rfl ?_
        refine RL.ev (.move rfl) rfl rfl ?_
        exact RL.nil (fun a ka => ⟨j + 1, ⟨by omega, Si, S⟩, by omega, ka.keep (keep_of (by repeat (first | exact trivial | refine And.intro rfl ?_)))⟩)
      ·
        refine RC.exit rfl (RC.back ?_)
        refine RC.seq ?_
        refine RC.region rfl ?_
        refine RL.ev (.loadR ([.slice na A.nodes.length nc, .slice fa A.free.length fc]) sh34 rfl hb_5.row rfl) rfl rfl ?_
        refine RL.ev (.move rfl) rfl rfl ?_
        refine RL.call rfl ok36 (c_hSize A na fa nc fc hnc hfc r hu w28 hA.now) rfl rfl ?_
        rintro _ w32 ⟨s33, n7, e7, rfl, _, hq7⟩
        have S := S.trans s33
        have Si := Si.trans s33
        have hb_5 := hb_5.sub s33
        have hA := hA.sub s33
        obtain ⟨hn7, rfl⟩ := hq7 _ (tab_of hok hT hap (by omega)) hT
        rw [hLl] at hn7
        subst hn7
        refine RL.ev (.move rfl) rfl rfl ?_
        refine RL.ev (.extract rfl rfl) rfl rfl ?_
        refine RL.ev (.extract rfl rfl) rfl rfl ?_
        refine RL.ev (.assign rfl) rfl rfl ?_
        refine RL.ev (.assign rfl) rfl rfl ?_
        refine RL.nil (RC.back ?_)
        refine RC.seq ?_
        refine RC.region rfl ?_
        refine RL.call rfl ok31 (c_alive9 w32) rfl rfl ?_
        rintro _ w34 ⟨rfl, s35⟩
        have S := S.trans s35
        have Si := Si.trans s35
        have hb_5 := hb_5.sub s35
        have hA := hA.sub s35
        refine RL.ev (.move rfl) rfl rfl ?_
        refine RL.ev (.move rfl) rfl rfl ?_
        refine RL.ev (.as (v' := .bool true) (.bin rfl rfl rfl) (congrArg Value.bool (decide_eq_true (rfl)))) rfl rfl ?_
        refine RL.ev (.pick_t rfl rfl) rfl rfl ?_
        refine RL.ev (.move rfl) rfl rfl ?_
        refine RL.ev (.move rfl) rfl rfl ?_
        refine RL.ev (.as (v' := .bool true) (.bin rfl rfl rfl) (congrArg Value.bool (decide_eq_true (rfl)))) rfl rfl ?_
        refine RL.ev (.pick_t rfl rfl) rfl rfl ?_
        refine RL.ev (.move rfl) rfl rfl ?_
        refine RL.ev (.move rfl) rfl rfl ?_
        refine RL.ev (.move rfl) rfl rfl ?_
        refine RL.ev (.as (v' := .int .i64 (P.length : Int)) (.len sl25 rfl) (by rw [List.length_map])) rfl rfl ?_
        refine RL.ev (.as (v' := .bool true) (.bin rfl rfl rfl) (congrArg Value.bool (decide_eq_true (rfl)))) rfl rfl ?_
        refine RL.ev (.pick_t rfl rfl) rfl rfl ?_
        refine RL.ev (.assign rfl) rfl rfl ?_
        refine RL.nil (RC.back ?_)
        refine RC.done (rs := [.tmp 4]) (vs := [_]) rfl rfl ⟨rfl, trivial⟩ ?_
        -- end 2
        exact ⟨rfl, S⟩
  ·
    have h32 := h5
    obtain ⟨Wi, Si, hWi⟩ : ∃ W, Sub W w4 ∧ W = w4 := ⟨_, Sub.refl _, rfl⟩
    rw [← hWi] at hb_5 hA oP
    refine RL.off rfl rfl ?_
    refine RL.off rfl rfl ?_
    refine RL.off rfl rfl ?_
    refine RL.off rfl rfl ?_
    refine RL.ev (.pick_f rfl rfl) rfl rfl ?_
    refine RL.nil (RC.back ?_)
    refine RC.cond_f rfl ?_
    refine RC.exit rfl (RC.back ?_)
    refine RC.seq ?_
    refine RC.seq ?_
    refine RC.region rfl ?_
    refine RL.ev (.move rfl) rfl rfl ?_
    refine RL.ev (.as (v' := .int .i64 (P.length : Int)) (.len sl25 rfl) (by rw [List.length_map])) rfl rfl ?_
    refine RL.ev (.move rfl) rfl rfl ?_
    refine RL.nil (RC.back ?_)
    refine RC.block ?_
    refine RC.loop (α := Nat) (fun j => [(5, .pointer (some ⟨b_5, 0, none⟩)), (6, .int .i64 0), (7, .int .u64 r), (8, .slice pa (P.map fun x => [i6 x]).length pc), (84, .slice pa (P.map fun x => [i6 x]).length pc), (85, .int .i64 (P.length : Int)), (86, .int .i64 (j : Int))]) (fun j w36 => j ≤ P.length ∧ Sub Wi w36 ∧ Sub w w36) (fun j => P.length - j) 0 (keep_of (by repeat (first | exact trivial | refine And.intro rfl ?_))) (⟨Nat.zero_le _, Si, S⟩) (fun j w36 hJ => ?_)
    obtain ⟨hj, Si, S⟩ := hJ; have hb_5 := hb_5.sub Si; have hA := hA.sub Si; have h8 := oP.sl.1.sub Si
    refine RC.seq ?_
    refine RC.region rfl ?_
    refine RL.ev (.bin rfl rfl rfl) rfl rfl ?_
    refine RL.nil (RC.back ?_)
    refine RC.seq ?_
    refine RC.cond_dec rfl (fun h37 => ?_) (fun h37 => ?_)
    ·
      obtain ⟨p, hp⟩ := getSome (l := P) (i := j) (by omega)
      refine RC.skip (RC.back ?_)
      refine RC.seq ?_
      refine RC.block ?_
      refine RC.seq ?_
      refine RC.region rfl ?_
      refine RL.ev (.indexS sl25 rfl rfl (by rw [List.length_map]; omega) (h8.is (i := 0) (by simp only [List.length_map, List.length_cons, List.length_nil]; omega))) rfl rfl ?_
      refine RL.ev (.load1 sh2 rfl (h8.one (enc := i6) (i := j) hp)) rfl rfl ?_
      refine RL.ev (.assign rfl) rfl rfl ?_
      refine RL.nil (RC.back ?_)
      refine RC.seq ?_
      refine RC.region rfl ?_
      refine RL.ev (.loadR ([.slice na A.nodes.length nc, .slice fa A.free.length fc]) sh34 rfl hb_5.row rfl) rfl rfl ?_
      refine RL.ev (.move rfl) rfl rfl ?_
      refine RL.ev (.move rfl) rfl rfl ?_
      refine RL.call rfl ok35 (c_hGet A na fa nc fc hnc hfc r p hu w36 hA.now) rfl rfl ?_
      rintro _ w38 ⟨s39, x5, e5, rfl, _, hg⟩
      have S := S.trans s39
      have Si := Si.trans s39
      have hb_5 := hb_5.sub s39
      have hA := hA.sub s39
      obtain ⟨_, _, _, _, he5⟩ := (hg _ (tab_of hok hT hap (by omega)) hT hap).resolve_right (fun h => by rw [show hasK (P.map oneI) p = true from hasK_iff.2 ⟨oneI p, List.mem_map.2 ⟨p, List.mem_of_getElem? hp, rfl⟩, rfl⟩] at h; cases h.1)
      refine RL.ev (.move rfl) rfl rfl ?_
      refine RL.ev (.extract rfl rfl) rfl rfl ?_
      refine RL.ev (.extract rfl rfl) rfl rfl ?_
      refine RL.ev (.assign rfl) rfl rfl ?_
      refine RL.ev (.assign rfl) rfl rfl ?_
      refine RL.nil (RC.back ?_)
      refine RC.seq ?_
      refine RC.region rfl ?_
      refine RL.ev (.move rfl) rfl rfl ?_
      refine RL.ev (.as (v' := .bool false) (.bin rfl rfl rfl) (congrArg Value.bool (decide_eq_false (fun h => h he5)))) rfl rfl ?_
      refine RL.nil (RC.back ?_)
      refine RC.cond_f rfl ?_
      refine RC.skip (RC.back ?_)
      refine RC.region rfl ?_
      refine RL.ev (.as (.bin rfl rfl rfl) (wi64 (y := ((j + 1 : Nat) : Int)) (by omega) (by omega))) rfl rfl ?_
      refine RL.ev (.move rfl) rfl rfl ?_
      exact RL.nil (fun a ka => ⟨j + 1, ⟨by omega, Si, S⟩, by omega, ka.keep (keep_of (by repeat (first | exact trivial | refine And.intro rfl ?_)))⟩)
    ·
      refine RC.exit rfl (RC.back ?_)
      refine RC.seq ?_
      refine RC.region rfl ?_
      refine RL.ev (.loadR ([.slice na A.nodes.length nc, .slice fa A.free.length fc]) sh34 rfl hb_5.row rfl) rfl rfl ?_
      refine RL.ev (.move rfl) rfl rfl ?_
      refine RL.call rfl ok36 (c_hSize A na fa nc fc hnc hfc r hu w36 hA.now) rfl rfl ?_
      rintro _ w40 ⟨s41, n7, e7, rfl, _, hq7⟩
      have S := S.trans s41
      have Si := Si.trans s41
      have hb_5 := hb_5.sub s41
      have hA := hA.sub s41
      obtain ⟨hn7, rfl⟩ := hq7 _ (tab_of hok hT hap (by omega)) hT
      rw [hLl] at hn7
      subst hn7
      refine RL.ev (.move rfl) rfl rfl ?_
      refine RL.ev (.extract rfl rfl) rfl rfl ?_
      refine RL.ev (.extract rfl rfl) rfl rfl ?_
      refine RL.ev (.assign rfl) rfl rfl ?_
      refine RL.ev (.assign rfl) rfl rfl ?_
      refine RL.nil (RC.back ?_)
      refine RC.seq ?_
      refine RC.region rfl ?_
      refine RL.call rfl ok31 (c_alive9 w40) rfl rfl ?_
      rintro _ w42 ⟨rfl, s43⟩
      have S := S.trans s43
      have Si := Si.trans s43
      have hb_5 := hb_5.sub s43
      have hA := hA.sub s43
      refine RL.ev (.move rfl) rfl rfl ?_
      refine RL.ev (.move rfl) rfl rfl ?_
      refine RL.ev (.as (v' := .bool true) (.bin rfl rfl rfl) (congrArg Value.bool (decide_eq_true (rfl)))) rfl rfl ?_
      refine RL.ev (.pick_t rfl rfl) rfl rfl ?_
      refine RL.ev (.move rfl) rfl rfl ?_
      refine RL.ev (.move rfl) rfl rfl ?_
      refine RL.ev (.as (v' := .bool true) (.bin rfl rfl rfl) (congrArg Value.bool (decide_eq_true (rfl)))) rfl rfl ?_
      refine RL.ev (.pick_t rfl rfl) rfl rfl ?_
      refine RL.ev (.move rfl) rfl rfl ?_
      refine RL.ev (.move rfl) rfl rfl ?_
      refine RL.ev (.move rfl) rfl rfl ?_
      refine RL.ev (.as (v' := .int .i64 (P.length : Int)) (.len sl25 rfl) (by rw [List.length_map])) rfl rfl ?_
      refine RL.ev (.as (v' := .bool true) (.bin rfl rfl rfl) (congrArg Value.bool (decide_eq_true (rfl)))) rfl rfl ?_
      refine RL.ev (.pick_t rfl rfl) rfl rfl ?_
      refine RL.ev (.assign rfl) rfl rfl ?_
      refine RL.nil (RC.back ?_)
      refine RC.done (rs := [.tmp 4]) (vs := [_]) rfl rfl ⟨rfl, trivial⟩ ?_
      -- end 3
      exact ⟨rfl, S⟩
end Go.Proofs.Ytbfjobmebkhblaa
