/-
  What the law HamtKeeps leans on, part 2.
-/
import Derived.Test.YtbfjobmebkhblaaPHamtKeeps1
set_option linter.unusedVariables false
set_option linter.unusedSimpArgs false
namespace Go.Proofs.Ytbfjobmebkhblaa
open Go Go.XL
structure Pre3 (A : Ar) (i : Nat) : Prop where
  at_ : ∀ (j : Nat) x, A.nodes[j]? = some x → j < i → well x = true ∧ A.free.count (j : Int) ≤ 1 ∧ (x.kind = 0 ↔ A.free.count (j : Int) = 1) ∧ (A.free.count (j : Int) = 1 → x = bareN x.gen)
theorem Pre3.succ {A : Ar} {i : Nat} {x : Node} (h : Pre3 A i) (hx : A.nodes[i]? = some x) (hr : well x = true ∧ A.free.count (i : Int) ≤ 1 ∧ (x.kind = 0 ↔ A.free.count (i : Int) = 1) ∧ (A.free.count (i : Int) = 1 → x = bareN x.gen)) : Pre3 A (i + 1) :=
  ⟨fun j y hy hj => (Nat.lt_succ_iff_lt_or_eq.1 hj).elim (h.at_ j y hy) (fun e => by subst e; rw [hx] at hy; cases hy; exact hr)⟩
theorem mem_iff_count1 {l : List Int} {x : Int} (h : l.count x ≤ 1) : x ∈ l ↔ l.count x = 1 := by
  rw [← List.count_pos_iff]; omega
theorem Pre3.aok {A : Ar} (h1 : 1 ≤ A.nodes.length ∧ A.nodes.length ≤ 512 ∧ A.free.length ≤ A.nodes.length) (p1 : ∀ x ∈ A.free, 0 ≤ x ∧ x < A.nodes.length) (p3 : Pre3 A A.nodes.length) : AOk A := by
  have key : ∀ (i : Nat) x, A.nodes[i]? = some x → _ := fun i x hx => p3.at_ i x hx (lt_of_get hx)
  refine ⟨h1.1, h1.2.1, h1.2.2, p1, ?_, ?_, ?_, ?_⟩
  · rw [List.nodup_iff_count]
    intro a
    by_cases ha : a ∈ A.free
    · have hr := p1 a ha
      obtain ⟨x, hx⟩ := getSome (l := A.nodes) (i := a.toNat) (by omega)
      have := (key _ x hx).2.1
      rwa [Int.toNat_of_nonneg hr.1] at this
    · rw [List.count_eq_zero_of_not_mem ha]; omega
  · intro x hx
    obtain ⟨j, hj⟩ := List.getElem?_of_mem hx
    exact (key j x hj).1
  · intro i x hx
    have := key i x hx
    rw [mem_iff_count1 this.2.1]; exact this.2.2.1
  · intro i x hx hm
    have := key i x hx
    exact this.2.2.2 ((mem_iff_count1 this.2.1).1 hm)
theorem aok_at3 {A : Ar} (h : AOk A) {i : Nat} {x : Node} (hx : A.nodes[i]? = some x) : well x = true ∧ A.free.count (i : Int) ≤ 1 ∧ (x.kind = 0 ↔ A.free.count (i : Int) = 1) ∧ (A.free.count (i : Int) = 1 → x = bareN x.gen) := by
  have hc := (List.nodup_iff_count.1 h.nodup) (i : Int)
  have := aok_at h hx
  rw [mem_iff_count1 hc] at this
  exact ⟨this.1, hc, this.2.1, this.2.2⟩

theorem c_r4Right (A : Ar) (na fa : Option Addr) (nc fc : Nat) (w : World) (hA : ArR w na fa A) :
    FC Try.prog 41 [arV na fa nc fc A] w (Val (.bool (aokB A)) w) := by
  have hN := hA.nodes
  have hFr := hA.free
  refine FC.intro Try.func41 rfl Try.ntmps41 rfl ?_
  have S := Sub.refl w
  refine RC.seq ?_
  refine RC.region rfl ?_
  refine RL.box rfl rfl rfl (fun b_1 w_1 e_1 z_1 hb_1 s_1 => ?_)
  have ge_1 := S.le e_1
  have S := S.trans s_1
  have hb_1 : Has w_1 b_1 ([.slice na A.nodes.length nc, .slice fa A.free.length fc]) _ := hb_1
  refine RL.ev (.assign rfl) rfl rfl ?_
  refine RL.nil (RC.back ?_)
  refine RC.seq ?_
  refine RC.seq ?_
  refine RC.region rfl ?_
  refine RL.ev (.field0 fo34_0 rfl) rfl rfl ?_
  refine RL.ev (.load1 sh31 rfl (hb_1.cell rfl)) rfl rfl ?_
  refine RL.ev (.len sl31 rfl) rfl rfl ?_
  refine RL.ev (.bin rfl rfl rfl) rfl rfl ?_
  refine RL.ev (.move rfl) rfl rfl ?_
  refine RL.split 13 rfl (fun h1 => ?_) (fun h1 => ?_)
  ·
    refine RL.off rfl rfl ?_
    refine RL.off rfl rfl ?_
    refine RL.off rfl rfl ?_
    refine RL.off rfl rfl ?_
    refine RL.ev (.pick_t rfl rfl) rfl rfl ?_
    refine RL.ev (.move rfl) rfl rfl ?_
    refine RL.off rfl rfl ?_
    refine RL.off rfl rfl ?_
    refine RL.off rfl rfl ?_
    refine RL.off rfl rfl ?_
    refine RL.off rfl rfl ?_
    refine RL.off rfl rfl ?_
    refine RL.off rfl rfl ?_
    refine RL.ev (.pick_t rfl rfl) rfl rfl ?_
    refine RL.nil (RC.back ?_)
    refine RC.cond_t rfl ?_
    refine RC.seq ?_
    refine RC.region rfl ?_
    refine RL.ev (.assign rfl) rfl rfl ?_
    refine RL.nil (RC.back ?_)
    refine RC.done (rs := [.tmp 2]) (vs := [_]) rfl rfl ⟨rfl, trivial⟩ ?_
    -- end 1
    exact ⟨congrArg Value.bool (aokB_no (fun h => by have := h.one; have := h.most; have := h.fit; omega)).symm, S⟩
  ·
    refine RL.ev (.field0 fo34_0 rfl) rfl rfl ?_
    refine RL.ev (.load1 sh31 rfl (hb_1.cell rfl)) rfl rfl ?_
    refine RL.ev (.len sl31 rfl) rfl rfl ?_
    refine RL.ev (.bin rfl rfl rfl) rfl rfl ?_
    refine RL.ev (.pick_f rfl rfl) rfl rfl ?_
    refine RL.ev (.move rfl) rfl rfl ?_
    refine RL.split 19 rfl (fun h2 => ?_) (fun h2 => ?_)
    ·
      refine RL.off rfl rfl ?_
      refine RL.off rfl rfl ?_
      refine RL.off rfl rfl ?_
      refine RL.off rfl rfl ?_
      refine RL.off rfl rfl ?_
      refine RL.off rfl rfl ?_
      refine RL.off rfl rfl ?_
      refine RL.ev (.pick_t rfl rfl) rfl rfl ?_
      refine RL.nil (RC.back ?_)
      refine RC.cond_t rfl ?_
      refine RC.seq ?_
      refine RC.region rfl ?_
      refine RL.ev (.assign rfl) rfl rfl ?_
      refine RL.nil (RC.back ?_)
      refine RC.done (rs := [.tmp 2]) (vs := [_]) rfl rfl ⟨rfl, trivial⟩ ?_
      -- end 2
      exact ⟨congrArg Value.bool (aokB_no (fun h => by have := h.one; have := h.most; have := h.fit; omega)).symm, S⟩
    ·
      refine RL.ev (.field0 fo34_1 rfl) rfl rfl ?_
      refine RL.ev (.load1 sh32 rfl (hb_1.cell rfl)) rfl rfl ?_
      refine RL.ev (.len sl32 rfl) rfl rfl ?_
      refine RL.ev (.field0 fo34_0 rfl) rfl rfl ?_
      refine RL.ev (.load1 sh31 rfl (hb_1.cell rfl)) rfl rfl ?_
      refine RL.ev (.len sl31 rfl) rfl rfl ?_
      refine RL.ev (.bin rfl rfl rfl) rfl rfl ?_
      refine RL.ev (.pick_f rfl rfl) rfl rfl ?_
      refine RL.nil (RC.back ?_)
      refine RC.cond_dec rfl (fun h3 => ?_) (fun h3 => ?_)
      ·
        refine RC.seq ?_
        refine RC.region rfl ?_
        refine RL.ev (.assign rfl) rfl rfl ?_
        refine RL.nil (RC.back ?_)
        refine RC.done (rs := [.tmp 2]) (vs := [_]) rfl rfl ⟨rfl, trivial⟩ ?_
        -- end 3
        exact ⟨congrArg Value.bool (aokB_no (fun h => by have := h.one; have := h.most; have := h.fit; omega)).symm, S⟩
      ·
        refine RC.skip (RC.back ?_)
        refine RC.seq ?_
        refine RC.seq ?_
        refine RC.region rfl ?_
        refine RL.ev (.field0 fo34_1 rfl) rfl rfl ?_
        refine RL.ev (.load1 sh32 rfl (hb_1.cell rfl)) rfl rfl ?_
        refine RL.ev (.len sl32 rfl) rfl rfl ?_
        refine RL.ev (.move rfl) rfl rfl ?_
        refine RL.nil (RC.back ?_)
        refine RC.block ?_
        refine RC.loop (α := Nat) (fun i => [(1, .pointer (some ⟨b_1, 0, none⟩)), (29, .slice fa A.free.length fc), (30, .int .i64 (A.free.length : Int)), (31, .int .i64 (i : Int))]) (fun i w4 => i ≤ A.free.length ∧ (∀ (j : Nat) (x : Int), A.free[j]? = some x → j < i → 0 ≤ x ∧ x < A.nodes.length) ∧ Has w4 b_1 [.slice na A.nodes.length nc, .slice fa A.free.length fc] 34 ∧ Sub w w4) (fun i => A.free.length - i) 0 (keep_of (by repeat (first | exact trivial | refine And.intro rfl ?_))) (⟨Nat.zero_le _, fun j x _ h => absurd h (by omega), hb_1, S⟩) (fun i w4 hJ => ?_)
        obtain ⟨hi, hp, hb_1, S⟩ := hJ
        refine RC.seq ?_
        refine RC.region rfl ?_
        refine RL.ev (.bin rfl rfl rfl) rfl rfl ?_
        refine RL.nil (RC.back ?_)
        refine RC.seq ?_
        refine RC.cond_dec rfl (fun h5 => ?_) (fun h5 => ?_)
        ·
          obtain ⟨y, hy⟩ := getSome (l := A.free) (i := i) (by omega)
          refine RC.skip (RC.back ?_)
          refine RC.seq ?_
          refine RC.block ?_
          refine RC.seq ?_
          refine RC.region rfl ?_
          refine RL.ev (.indexS sl32 rfl rfl (by omega) (hFr.is (i := 0) (by simp only [List.length_map, List.length_cons, List.length_nil]; omega))) rfl rfl ?_
          refine RL.ev (.load1 sh3 rfl ((hFr.sub S).one (enc := i6) (i := i) hy)) rfl rfl ?_
          refine RL.ev (.assign rfl) rfl rfl ?_
          refine RL.nil (RC.back ?_)
          refine RC.seq ?_
          refine RC.region rfl ?_
          refine RL.ev (.move rfl) rfl rfl ?_
          refine RL.ev (.bin rfl rfl rfl) rfl rfl ?_
          refine RL.ev (.move rfl) rfl rfl ?_
          refine RL.split 37 rfl (fun h6 => ?_) (fun h6 => ?_)
          ·
            refine RL.off rfl rfl ?_
            refine RL.off rfl rfl ?_
            refine RL.off rfl rfl ?_
            refine RL.off rfl rfl ?_
            refine RL.off rfl rfl ?_
            refine RL.ev (.pick_t rfl rfl) rfl rfl ?_
            refine RL.nil (RC.back ?_)
            refine RC.cond_t rfl ?_
            refine RC.seq ?_
            refine RC.region rfl ?_
            refine RL.ev (.assign rfl) rfl rfl ?_
            refine RL.nil (RC.back ?_)
            refine RC.done (rs := [.tmp 2]) (vs := [_]) rfl rfl ⟨rfl, trivial⟩ ?_
            -- end 4
            exact ⟨congrArg Value.bool (aokB_no (fun h => by have := h.free y (List.mem_of_getElem? hy); omega)).symm, S⟩
          ·
            refine RL.ev (.move rfl) rfl rfl ?_
            refine RL.ev (.field0 fo34_0 rfl) rfl rfl ?_
            refine RL.ev (.load1 sh31 rfl (hb_1.cell rfl)) rfl rfl ?_
            refine RL.ev (.len sl31 rfl) rfl rfl ?_
            refine RL.ev (.bin rfl rfl rfl) rfl rfl ?_
            refine RL.ev (.pick_f rfl rfl) rfl rfl ?_
            refine RL.nil (RC.back ?_)
            refine RC.cond_dec rfl (fun h7 => ?_) (fun h7 => ?_)
            ·
              refine RC.seq ?_
              refine RC.region rfl ?_
              refine RL.ev (.assign rfl) rfl rfl ?_
              refine RL.nil (RC.back ?_)
              refine RC.done (rs := [.tmp 2]) (vs := [_]) rfl rfl ⟨rfl, trivial⟩ ?_
              -- end 5
              exact ⟨congrArg Value.bool (aokB_no (fun h => by have := h.free y (List.mem_of_getElem? hy); omega)).symm, S⟩
            ·
              refine RC.skip (RC.back ?_)
              refine RC.region rfl ?_
              refine RL.ev (.as (.bin rfl rfl rfl) (wi64 (y := ((i + 1 : Nat) : Int)) (by omega) (by omega))) rfl rfl ?_
              refine RL.ev (.move rfl) rfl rfl ?_
              exact RL.nil (fun a ka => ⟨i + 1, ⟨by omega, fun j x hj h => (Nat.lt_succ_iff_lt_or_eq.1 h).elim (hp j x hj) (fun e => by subst e; rw [hy] at hj; cases hj; omega), hb_1, S⟩, by omega, ka.keep (keep_of (by repeat (first | exact trivial | refine And.intro rfl ?_)))⟩)
        ·
          obtain rfl : i = A.free.length := (by omega)
          have hp' : ∀ x ∈ A.free, 0 ≤ x ∧ x < A.nodes.length := (fun x hx => by obtain ⟨j, hj⟩ := List.getElem?_of_mem hx; exact hp j x hj (lt_of_get hj))
          refine RC.exit rfl (RC.back ?_)
          refine RC.seq ?_
          refine RC.seq ?_
          refine RC.region rfl ?_
          refine RL.ev (.field0 fo34_0 rfl) rfl rfl ?_
          refine RL.ev (.load1 sh31 rfl (hb_1.cell rfl)) rfl rfl ?_
          refine RL.ev (.len sl31 rfl) rfl rfl ?_
          refine RL.ev (.move rfl) rfl rfl ?_
          refine RL.nil (RC.back ?_)
          refine RC.block ?_
          refine RC.loop (α := Nat) (fun i => [(1, .pointer (some ⟨b_1, 0, none⟩)), (46, .slice na A.nodes.length nc), (47, .int .i64 (A.nodes.length : Int)), (48, .int .i64 (i : Int))]) (fun i w8 => i ≤ A.nodes.length ∧ Pre3 A i ∧ Has w8 b_1 [.slice na A.nodes.length nc, .slice fa A.free.length fc] 34 ∧ Sub w w8) (fun i => A.nodes.length - i) 0 (keep_of (by repeat (first | exact trivial | refine And.intro rfl ?_))) (⟨Nat.zero_le _, ⟨fun j x _ h => absurd h (by omega)⟩, hb_1, S⟩) (fun i w8 hJ => ?_)
          obtain ⟨hi, hq, hb_1, S⟩ := hJ
          refine RC.seq ?_
          refine RC.region rfl ?_
          refine RL.ev (.bin rfl rfl rfl) rfl rfl ?_
          refine RL.nil (RC.back ?_)
          refine RC.seq ?_
          refine RC.cond_dec rfl (fun h9 => ?_) (fun h9 => ?_)
          ·
            obtain ⟨x, hx⟩ := getSome (l := A.nodes) (i := i) (by omega)
            have hcl := List.count_le_length (a := (i : Int)) (l := A.free)
            refine RC.skip (RC.back ?_)
            refine RC.seq ?_
            refine RC.block ?_
            refine RC.seq ?_
            refine RC.region rfl ?_
            refine RL.ev (.move rfl) rfl rfl ?_
            refine RL.ev (.indexS sl31 rfl rfl (by omega) (hN.is (i := 0) (by simp only [List.length_map, List.length_cons, List.length_nil]; omega))) rfl rfl ?_
            refine RL.ev (.loadR (x.cells) sh97 rfl ((hN.sub S).rowAt (enc := Node.cells) (i := i) hx) rfl) rfl rfl ?_
            refine RL.alloc ze97 rfl rfl (fun b_6 w_6 e_6 z_6 hb_6 s_6 => ?_)
            have ge_6 := S.le e_6
            have n_1__6 := hb_1.ne e_6
            have S := S.trans s_6
            have hb_1 := hb_1.sub s_6
            refine RL.ev (.assign rfl) rfl rfl ?_
            refine RL.store sh97 rfl rfl rfl hb_6 (by exact Nat.le_of_ble_eq_true rfl) (by rfl) rfl (fun w10 z10 hb_6 a10 => ?_)
            have S := S.upd a10 ge_6
            have hb_1 := hb_1.upd a10 n_1__6
            have hb_6 : Has w10 b_6 (x.cells) _ := hb_6.now (by kernel_rfl)
            refine RL.nil (RC.back ?_)
            refine RC.seq ?_
            refine RC.region rfl ?_
            refine RL.ev (.field0 fo34_1 rfl) rfl rfl ?_
            refine RL.ev (.load1 sh32 rfl (hb_1.cell rfl)) rfl rfl ?_
            refine RL.ev (.move rfl) rfl rfl ?_
            refine RL.call rfl ok68 (c_r4has A.free (i : Int) fa fc w10 (hFr.sub S) (by omega)) rfl rfl ?_
            rintro _ w11 ⟨rfl, s12⟩
            have S := S.trans s12
            have hb_1 := hb_1.sub s12
            have hb_6 := hb_6.sub s12
            refine RL.ev (.assign rfl) rfl rfl ?_
            refine RL.nil (RC.back ?_)
            refine RC.seq ?_
            refine RC.seq ?_
            refine RC.region rfl ?_
            refine RL.ev (.loadR (x.cells) sh97 rfl hb_6.row rfl) rfl rfl ?_
            refine RL.call rfl ok69 (c_r4Well x (hA.nok x (List.mem_of_getElem? hx)) w11) rfl rfl ?_
            rintro _ w13 ⟨rfl, s14⟩
            have S := S.trans s14
            have hb_1 := hb_1.sub s14
            have hb_6 := hb_6.sub s14
            refine RL.ev (.not rfl) rfl rfl ?_
            refine RL.ev (.move rfl) rfl rfl ?_
            refine RL.splitB 60 rfl (fun h15 => ?_) (fun h15 => ?_)
            ·
              have hbad1 : ¬ well x = true := (by simpa using h15)
              refine RL.off rfl rfl ?_
              refine RL.off rfl rfl ?_
              refine RL.ev (.pick_t rfl rfl) rfl rfl ?_
              refine RL.ev (.move rfl) rfl rfl ?_
              refine RL.off rfl rfl ?_
              refine RL.off rfl rfl ?_
              refine RL.off rfl rfl ?_
              refine RL.off rfl rfl ?_
              refine RL.off rfl rfl ?_
              refine RL.off rfl rfl ?_
              refine RL.ev (.pick_t rfl rfl) rfl rfl ?_
              refine RL.nil (RC.back ?_)
              refine RC.cond_t rfl ?_
              refine RC.seq ?_
              refine RC.region rfl ?_
              refine RL.ev (.assign rfl) rfl rfl ?_
              refine RL.nil (RC.back ?_)
              refine RC.done (rs := [.tmp 2]) (vs := [_]) rfl rfl ⟨rfl, trivial⟩ ?_
              -- end 6
              exact ⟨congrArg Value.bool (aokB_no (fun h => hbad1 (aok_at3 h hx).1)).symm, S⟩
            ·
              have hw : well x = true := (by simpa using h15)
              refine RL.ev (.move rfl) rfl rfl ?_
              refine RL.ev (.bin rfl rfl rfl) rfl rfl ?_
              refine RL.ev (.pick_f rfl rfl) rfl rfl ?_
              refine RL.ev (.move rfl) rfl rfl ?_
              refine RL.split 64 rfl (fun h16 => ?_) (fun h16 => ?_)
              ·
                have hbad4 := h16
                refine RL.off rfl rfl ?_
                refine RL.off rfl rfl ?_
                refine RL.off rfl rfl ?_
                refine RL.off rfl rfl ?_
                refine RL.off rfl rfl ?_
                refine RL.off rfl rfl ?_
                refine RL.ev (.pick_t rfl rfl) rfl rfl ?_
                refine RL.nil (RC.back ?_)
                refine RC.cond_t rfl ?_
                refine RC.seq ?_
                refine RC.region rfl ?_
                refine RL.ev (.assign rfl) rfl rfl ?_
                refine RL.nil (RC.back ?_)
                refine RC.done (rs := [.tmp 2]) (vs := [_]) rfl rfl ⟨rfl, trivial⟩ ?_
                -- end 7
                exact ⟨congrArg Value.bool (aokB_no (fun h => by have := (aok_at3 h hx).2.1; omega)).symm, S⟩
              ·
                have hle := h16
                refine RL.ev (.move rfl) rfl rfl ?_
                refine RL.ev (.bin rfl rfl rfl) rfl rfl ?_
                refine RL.ev (.field0 fo97_0 rfl) rfl rfl ?_
                refine RL.ev (.load1 sh3 rfl (hb_6.cell rfl)) rfl rfl ?_
                refine RL.ev (.bin rfl rfl rfl) rfl rfl ?_
                refine RL.ev (.neB bo4 rfl rfl) rfl rfl ?_
                refine RL.ev (.pick_f rfl rfl) rfl rfl ?_
                refine RL.nil (RC.back ?_)
                refine RC.cond rfl (fun h17 => ?_) (fun h17 => ?_)
                ·
                  have hbad2 : ¬ ((A.free.count (i : Int) : Int) = 1 ↔ x.kind = 0) := (by simpa using h17)
                  refine RC.seq ?_
                  refine RC.region rfl ?_
                  refine RL.ev (.assign rfl) rfl rfl ?_
                  refine RL.nil (RC.back ?_)
                  refine RC.done (rs := [.tmp 2]) (vs := [_]) rfl rfl ⟨rfl, trivial⟩ ?_
                  -- end 8
                  exact ⟨congrArg Value.bool (aokB_no (fun h => hbad2 (by rw [(aok_at3 h hx).2.2.1]; omega))).symm, S⟩
                ·
                  have hk : ((A.free.count (i : Int) : Int) = 1 ↔ x.kind = 0) := (by simpa using h17)
                  refine RC.skip (RC.back ?_)
                  refine RC.seq ?_
                  refine RC.region rfl ?_
                  refine RL.ev (.field0 fo97_1 rfl) rfl rfl ?_
                  refine RL.ev (.load1 sh3 rfl (hb_6.cell rfl)) rfl rfl ?_
                  refine RL.ev (.buildS ze97 pl97 rfl rfl) rfl rfl ?_
                  refine RL.alloc ze97 rfl rfl (fun b_8 w_8 e_8 z_8 hb_8 s_8 => ?_)
                  have ge_8 := S.le e_8
                  have n_1__8 := hb_1.ne e_8
                  have n_6__8 := hb_6.ne e_8
                  have S := S.trans s_8
                  have hb_1 := hb_1.sub s_8
                  have hb_6 := hb_6.sub s_8
                  refine RL.store sh97 rfl rfl rfl hb_8 (by exact Nat.le_of_ble_eq_true rfl) (by rfl) rfl (fun w18 z18 hb_8 a18 => ?_)
                  have S := S.upd a18 ge_8
                  have hb_1 := hb_1.upd a18 n_1__8
                  have hb_6 := hb_6.upd a18 n_6__8
                  have hb_8 : Has w18 b_8 ((bareN x.gen).cells) _ := hb_8.now (by kernel_rfl)
                  refine RL.nil (RC.back ?_)
                  refine RC.seq ?_
                  refine RC.region rfl ?_
                  refine RL.ev (.move rfl) rfl rfl ?_
                  refine RL.ev (.bin rfl rfl rfl) rfl rfl ?_
                  refine RL.ev (.move rfl) rfl rfl ?_
                  refine RL.split 77 rfl (fun h19 => ?_) (fun h19 => ?_)
                  ·
                    have hmem := h19
                    refine RL.ev (.loadR (x.cells) sh97 rfl hb_6.row rfl) rfl rfl ?_
                    refine RL.ev (.loadR ((bareN x.gen).cells) sh97 rfl hb_8.row rfl) rfl rfl ?_
                    refine RL.ev (.neS (xs := x.cells) (ys := (bareN x.gen).cells) fk97 eg97 sh97 rfl rfl rfl rfl rfl) rfl rfl ?_
                    refine RL.ev (.pick_t rfl rfl) rfl rfl ?_
                    refine RL.nil (RC.back ?_)
                    refine RC.cond rfl (fun h20 => ?_) (fun h20 => ?_)
                    ·
                      have hbad3 : ¬ x = bareN x.gen := (by have := h20; rw [eqL_cells] at this; simpa using this)
                      refine RC.seq ?_
                      refine RC.region rfl ?_
                      refine RL.ev (.assign rfl) rfl rfl ?_
                      refine RL.nil (RC.back ?_)
                      refine RC.done (rs := [.tmp 2]) (vs := [_]) rfl rfl ⟨rfl, trivial⟩ ?_
                      -- end 9
                      exact ⟨congrArg Value.bool (aokB_no (fun h => hbad3 ((aok_at3 h hx).2.2.2 (by omega)))).symm, S⟩
                    ·
                      have hgood : well x = true ∧ A.free.count (i : Int) ≤ 1 ∧ (x.kind = 0 ↔ A.free.count (i : Int) = 1) ∧ (A.free.count (i : Int) = 1 → x = bareN x.gen) := ⟨hw, by omega, by rw [← hk]; omega, fun _ => by have := h20; rw [eqL_cells] at this; simpa using this⟩
                      refine RC.skip (RC.back ?_)
                      refine RC.region rfl ?_
                      refine RL.ev (.as (.bin rfl rfl rfl) (wi64 (y := ((i + 1 : Nat) : Int)) (by omega) (by omega))) rfl rfl ?_
                      refine RL.ev (.move rfl) rfl rfl ?_
                      exact RL.nil (fun a ka => ⟨i + 1, ⟨by omega, hq.succ hx hgood, hb_1, S⟩, by omega, ka.keep (keep_of (by repeat (first | exact trivial | refine And.intro rfl ?_)))⟩)
                  ·
                    have hgood : well x = true ∧ A.free.count (i : Int) ≤ 1 ∧ (x.kind = 0 ↔ A.free.count (i : Int) = 1) ∧ (A.free.count (i : Int) = 1 → x = bareN x.gen) := ⟨hw, by omega, by rw [← hk]; omega, fun h => absurd h (by omega)⟩
                    refine RL.off rfl rfl ?_
                    refine RL.off rfl rfl ?_
                    refine RL.off rfl rfl ?_
                    refine RL.ev (.pick_f rfl rfl) rfl rfl ?_
                    refine RL.nil (RC.back ?_)
                    refine RC.cond_f rfl ?_
                    refine RC.skip (RC.back ?_)
                    refine RC.region rfl ?_
                    refine RL.ev (.as (.bin rfl rfl rfl) (wi64 (y := ((i + 1 : Nat) : Int)) (by omega) (by omega))) rfl rfl ?_
                    refine RL.ev (.move rfl) rfl rfl ?_
                    exact RL.nil (fun a ka => ⟨i + 1, ⟨by omega, hq.succ hx hgood, hb_1, S⟩, by omega, ka.keep (keep_of (by repeat (first | exact trivial | refine And.intro rfl ?_)))⟩)
          ·
            obtain rfl : i = A.nodes.length := by omega
            refine RC.exit rfl (RC.back ?_)
            refine RC.seq ?_
            refine RC.region rfl ?_
            refine RL.ev (.assign rfl) rfl rfl ?_
            refine RL.nil (RC.back ?_)
            refine RC.done (rs := [.tmp 2]) (vs := [_]) rfl rfl ⟨rfl, trivial⟩ ?_
            -- end 10
            exact ⟨congrArg Value.bool (aokB_yes (Pre3.aok (by omega) hp' hq)).symm, S⟩
end Go.Proofs.Ytbfjobmebkhblaa
set_option linter.unusedVariables false
set_option linter.unusedSimpArgs false
namespace Go.Proofs.Ytbfjobmebkhblaa
open Go Go.XL
/-- the node of a reference, if there is one -/
def getA (A : Ar) (r : Int) : Option Node :=
  if placeR r < 0 then none else
  match A.nodes[(placeR r).toNat]? with
  | none => none
  | some x => if x.kind = 0 ∨ ¬ x.gen = genR r then none else some x
def getV (A : Ar) (r : Int) : Value := match getA A r with
  | some x => .tuple #[x.val, .int .i64 0]
  | none => .tuple #[(bareN 0).val, .int .i64 4]
theorem getA_neg {A : Ar} {r : Int} (h : placeR r < 0 ∨ A.nodes.length ≤ placeR r) : getA A r = none := by
  unfold getA
  split
  · rfl
  · rw [List.getElem?_eq_none (by omega)]
theorem getA_at {A : Ar} {r : Int} {x : Node} (h : 0 ≤ placeR r) (hx : A.nodes[(placeR r).toNat]? = some x) : getA A r = if x.kind = 0 ∨ ¬ x.gen = genR r then none else some x := by
  unfold getA
  rw [if_neg (by omega), hx]
theorem getV_no {A : Ar} {r : Int} (h : getA A r = none) : getV A r = .tuple #[(bareN 0).val, .int .i64 4] := by rw [getV, h]
theorem getV_yes {A : Ar} {r : Int} {x : Node} (h : getA A r = some x) : getV A r = .tuple #[x.val, .int .i64 0] := by rw [getV, h]

theorem c_aGet (A : Ar) (na fa : Option Addr) (nc fc : Nat) (r : Int) (hr : U64 r) (w : World) (hA : ArR w na fa A) :
    FC Try.prog 94 [arV na fa nc fc A, .int .u64 r] w (Val (getV A r) w) := by
  have hN := hA.nodes
  have hFr := hA.free
  refine FC.intro Try.func94 rfl Try.ntmps94 rfl ?_
  have S := Sub.refl w
  refine RC.seq ?_
  refine RC.region rfl ?_
  refine RL.box rfl rfl rfl (fun b_2 w_2 e_2 z_2 hb_2 s_2 => ?_)
  have ge_2 := S.le e_2
  have S := S.trans s_2
  have hb_2 : Has w_2 b_2 ([.slice na A.nodes.length nc, .slice fa A.free.length fc]) _ := hb_2
  refine RL.alloc ze97 rfl rfl (fun b_4 w_4 e_4 z_4 hb_4 s_4 => ?_)
  have ge_4 := S.le e_4
  have n_2__4 := hb_2.ne e_4
  have S := S.trans s_4
  have hb_2 := hb_2.sub s_4
  refine RL.ev (.assign rfl) rfl rfl ?_
  refine RL.nil (RC.back ?_)
  refine RC.seq ?_
  refine RC.region rfl ?_
  refine RL.ev (.move rfl) rfl rfl ?_
  refine RL.call rfl ok110 (c_refPlace r hr w_4) rfl rfl ?_
  rintro _ w1 ⟨rfl, s2⟩
  have S := S.trans s2
  have hb_2 := hb_2.sub s2
  have hb_4 := hb_4.sub s2
  refine RL.ev (.assign rfl) rfl rfl ?_
  refine RL.nil (RC.back ?_)
  refine RC.seq ?_
  refine RC.seq ?_
  refine RC.draw rfl mxo (by kernel_rfl) ?_
  refine RQ.ev (.move rfl) rfl rfl ?_
  refine RQ.ev (.bin rfl rfl rfl) rfl rfl ?_
  refine RQ.ev (.move rfl) rfl rfl ?_
  refine RQ.split 11 rfl (fun h3 => ?_) (fun h3 => ?_)
  ·
    refine RQ.off rfl rfl ?_
    refine RQ.off rfl rfl ?_
    refine RQ.off rfl rfl ?_
    refine RQ.off rfl rfl ?_
    refine RQ.off rfl rfl ?_
    refine RQ.ev (.pick_t rfl rfl) rfl rfl ?_
    refine RQ.ev (.move rfl) rfl rfl ?_
    refine RQ.off rfl rfl ?_
    refine RQ.off rfl rfl ?_
    refine RQ.off rfl rfl ?_
    refine RQ.off rfl rfl ?_
    refine RQ.off rfl rfl ?_
    refine RQ.off rfl rfl ?_
    refine RQ.off rfl rfl ?_
    refine RQ.ev (.pick_t rfl rfl) rfl rfl ?_
    refine RQ.ev (.move rfl) rfl rfl ?_
    refine RQ.off rfl rfl ?_
    refine RQ.off rfl rfl ?_
    refine RQ.off rfl rfl ?_
    refine RQ.off rfl rfl ?_
    refine RQ.off rfl rfl ?_
    refine RQ.off rfl rfl ?_
    refine RQ.off rfl rfl ?_
    refine RQ.off rfl rfl ?_
    refine RQ.off rfl rfl ?_
    refine RQ.ev (.pick_t rfl rfl) rfl rfl ?_
    refine RQ.nil (fun w4 s5 => RC.back ?_)
    have S := S.trans s5
    have hb_2 := hb_2.sub s5
    have hb_4 := hb_4.sub s5
    refine RC.cond_t rfl ?_
    refine RC.seq ?_
    refine RC.region rfl ?_
    refine RL.ev (.buildS ze97 pl97 rfl rfl) rfl rfl ?_
    refine RL.store sh97 rfl rfl rfl hb_4 (by exact Nat.le_of_ble_eq_true rfl) (by rfl) rfl (fun w6 z6 hb_4 a6 => ?_)
    have S := S.upd a6 ge_4
    have hb_2 := hb_2.upd a6 n_2__4
    have hb_4 : Has w6 b_4 ((bareN 0).cells) _ := hb_4.now (by kernel_rfl)
    refine RL.ev (.assign rfl) rfl rfl ?_
    refine RL.nil (RC.back ?_)
    refine RC.done (rs := [.cell 4 97, .tmp 5]) (vs := [_, _]) rfl rfl ⟨⟨_, rfl, .inr ⟨(bareN 0).cells, sh97, hb_4.row, rfl⟩⟩, rfl, trivial⟩ ?_
    -- end 1
    rw [getV_no (getA_neg (by omega))]
    exact ⟨rfl, S⟩
  ·
    refine RQ.ev (.move rfl) rfl rfl ?_
    refine RQ.ev (.field0 fo34_0 rfl) rfl rfl ?_
    refine RQ.ev (.load1 sh31 rfl (hb_2.cell rfl)) rfl rfl ?_
    refine RQ.ev (.len sl31 rfl) rfl rfl ?_
    refine RQ.ev (.bin rfl rfl rfl) rfl rfl ?_
    refine RQ.ev (.pick_f rfl rfl) rfl rfl ?_
    refine RQ.ev (.move rfl) rfl rfl ?_
    refine RQ.split 18 rfl (fun h7 => ?_) (fun h7 => ?_)
    ·
      refine RQ.off rfl rfl ?_
      refine RQ.off rfl rfl ?_
      refine RQ.off rfl rfl ?_
      refine RQ.off rfl rfl ?_
      refine RQ.off rfl rfl ?_
      refine RQ.off rfl rfl ?_
      refine RQ.off rfl rfl ?_
      refine RQ.ev (.pick_t rfl rfl) rfl rfl ?_
      refine RQ.ev (.move rfl) rfl rfl ?_
      refine RQ.off rfl rfl ?_
      refine RQ.off rfl rfl ?_
      refine RQ.off rfl rfl ?_
      refine RQ.off rfl rfl ?_
      refine RQ.off rfl rfl ?_
      refine RQ.off rfl rfl ?_
      refine RQ.off rfl rfl ?_
      refine RQ.off rfl rfl ?_
      refine RQ.off rfl rfl ?_
      refine RQ.ev (.pick_t rfl rfl) rfl rfl ?_
      refine RQ.nil (fun w8 s9 => RC.back ?_)
      have S := S.trans s9
      have hb_2 := hb_2.sub s9
      have hb_4 := hb_4.sub s9
      refine RC.cond_t rfl ?_
      refine RC.seq ?_
      refine RC.region rfl ?_
      refine RL.ev (.buildS ze97 pl97 rfl rfl) rfl rfl ?_
      refine RL.store sh97 rfl rfl rfl hb_4 (by exact Nat.le_of_ble_eq_true rfl) (by rfl) rfl (fun w10 z10 hb_4 a10 => ?_)
      have S := S.upd a10 ge_4
      have hb_2 := hb_2.upd a10 n_2__4
      have hb_4 : Has w10 b_4 ((bareN 0).cells) _ := hb_4.now (by kernel_rfl)
      refine RL.ev (.assign rfl) rfl rfl ?_
      refine RL.nil (RC.back ?_)
      refine RC.done (rs := [.cell 4 97, .tmp 5]) (vs := [_, _]) rfl rfl ⟨⟨_, rfl, .inr ⟨(bareN 0).cells, sh97, hb_4.row, rfl⟩⟩, rfl, trivial⟩ ?_
      -- end 2
      rw [getV_no (getA_neg (by omega))]
      exact ⟨rfl, S⟩
    ·
      obtain ⟨x, hx⟩ := getSome (l := A.nodes) (i := (placeR r).toNat) (by omega)
      have hga := getA_at (by omega) hx
      refine RQ.ev (.field0 fo34_0 rfl) rfl rfl ?_
      refine RQ.ev (.load1 sh31 rfl (hb_2.cell rfl)) rfl rfl ?_
      refine RQ.ev (.move rfl) rfl rfl ?_
      refine RQ.ev (.indexS sl31 rfl rfl (by omega) (hN.is (i := 0) (by simp only [List.length_map, List.length_cons, List.length_nil]; omega))) rfl rfl ?_
      refine RQ.ev (.fieldA fo97_0 rfl) rfl rfl ?_
      refine RQ.ev (.load1 sh3 rfl ((hN.sub S).cell (enc := Node.cells) (j := 0) hx rfl)) rfl rfl ?_
      refine RQ.ev (.bin rfl rfl rfl) rfl rfl ?_
      refine RQ.ev (.pick_f rfl rfl) rfl rfl ?_
      refine RQ.ev (.move rfl) rfl rfl ?_
      refine RQ.split 27 rfl (fun h11 => ?_) (fun h11 => ?_)
      ·
        have hk := h11
        refine RQ.off rfl rfl ?_
        refine RQ.off rfl rfl ?_
        refine RQ.off rfl rfl ?_
        refine RQ.off rfl rfl ?_
        refine RQ.off rfl rfl ?_
        refine RQ.off rfl rfl ?_
        refine RQ.off rfl rfl ?_
        refine RQ.off rfl rfl ?_
        refine RQ.off rfl rfl ?_
        refine RQ.ev (.pick_t rfl rfl) rfl rfl ?_
        refine RQ.nil (fun w12 s13 => RC.back ?_)
        have S := S.trans s13
        have hb_2 := hb_2.sub s13
        have hb_4 := hb_4.sub s13
        refine RC.cond_t rfl ?_
        refine RC.seq ?_
        refine RC.region rfl ?_
        refine RL.ev (.buildS ze97 pl97 rfl rfl) rfl rfl ?_
        refine RL.store sh97 rfl rfl rfl hb_4 (by exact Nat.le_of_ble_eq_true rfl) (by rfl) rfl (fun w14 z14 hb_4 a14 => ?_)
        have S := S.upd a14 ge_4
        have hb_2 := hb_2.upd a14 n_2__4
        have hb_4 : Has w14 b_4 ((bareN 0).cells) _ := hb_4.now (by kernel_rfl)
        refine RL.ev (.assign rfl) rfl rfl ?_
        refine RL.nil (RC.back ?_)
        refine RC.done (rs := [.cell 4 97, .tmp 5]) (vs := [_, _]) rfl rfl ⟨⟨_, rfl, .inr ⟨(bareN 0).cells, sh97, hb_4.row, rfl⟩⟩, rfl, trivial⟩ ?_
        -- end 3
        rw [getV_no (hga.trans (if_pos (.inl hk)))]
        exact ⟨rfl, S⟩
      ·
        have hk := h11
        refine RQ.ev (.field0 fo34_0 rfl) rfl rfl ?_
        refine RQ.ev (.load1 sh31 rfl (hb_2.cell rfl)) rfl rfl ?_
        refine RQ.ev (.move rfl) rfl rfl ?_
        refine RQ.ev (.indexS sl31 rfl rfl (by omega) (hN.is (i := 0) (by simp only [List.length_map, List.length_cons, List.length_nil]; omega))) rfl rfl ?_
        refine RQ.ev (.fieldA fo97_1 rfl) rfl rfl ?_
        refine RQ.ev (.load1 sh3 rfl ((hN.sub S).cell (enc := Node.cells) (j := 1) hx rfl)) rfl rfl ?_
        refine RQ.ev (.move rfl) rfl rfl ?_
        refine RQ.call rfl ok111 (fun w' s' => c_refGen r hr w') rfl rfl ?_
        refine RQ.ev (.bin rfl rfl rfl) rfl rfl ?_
        refine RQ.ev (.pick_f rfl rfl) rfl rfl ?_
        refine RQ.nil (fun w15 s16 => RC.back ?_)
        have S := S.trans s16
        have hb_2 := hb_2.sub s16
        have hb_4 := hb_4.sub s16
        refine RC.cond_dec rfl (fun h17 => ?_) (fun h17 => ?_)
        ·
          have hg := h17
          refine RC.seq ?_
          refine RC.region rfl ?_
          refine RL.ev (.buildS ze97 pl97 rfl rfl) rfl rfl ?_
          refine RL.store sh97 rfl rfl rfl hb_4 (by exact Nat.le_of_ble_eq_true rfl) (by rfl) rfl (fun w18 z18 hb_4 a18 => ?_)
          have S := S.upd a18 ge_4
          have hb_2 := hb_2.upd a18 n_2__4
          have hb_4 : Has w18 b_4 ((bareN 0).cells) _ := hb_4.now (by kernel_rfl)
          refine RL.ev (.assign rfl) rfl rfl ?_
          refine RL.nil (RC.back ?_)
          refine RC.done (rs := [.cell 4 97, .tmp 5]) (vs := [_, _]) rfl rfl ⟨⟨_, rfl, .inr ⟨(bareN 0).cells, sh97, hb_4.row, rfl⟩⟩, rfl, trivial⟩ ?_
          -- end 4
          rw [getV_no (hga.trans (if_pos (.inr hg)))]
          exact ⟨rfl, S⟩
        ·
          have hg := h17
          refine RC.skip (RC.back ?_)
          refine RC.seq ?_
          refine RC.region rfl ?_
          refine RL.ev (.field0 fo34_0 rfl) rfl rfl ?_
          refine RL.ev (.load1 sh31 rfl (hb_2.cell rfl)) rfl rfl ?_
          refine RL.ev (.move rfl) rfl rfl ?_
          refine RL.ev (.indexS sl31 rfl rfl (by omega) (hN.is (i := 0) (by simp only [List.length_map, List.length_cons, List.length_nil]; omega))) rfl rfl ?_
          refine RL.ev (.loadR (x.cells) sh97 rfl ((hN.sub S).rowAt (enc := Node.cells) hx) rfl) rfl rfl ?_
          refine RL.store sh97 rfl rfl rfl hb_4 (by exact Nat.le_of_ble_eq_true rfl) (by rfl) rfl (fun w19 z19 hb_4 a19 => ?_)
          have S := S.upd a19 ge_4
          have hb_2 := hb_2.upd a19 n_2__4
          have hb_4 : Has w19 b_4 (x.cells) _ := hb_4.now (by kernel_rfl)
          refine RL.ev (.assign rfl) rfl rfl ?_
          refine RL.nil (RC.back ?_)
          refine RC.done (rs := [.cell 4 97, .tmp 5]) (vs := [_, _]) rfl rfl ⟨⟨_, rfl, .inr ⟨x.cells, sh97, hb_4.row, rfl⟩⟩, rfl, trivial⟩ ?_
          -- end 5
          rw [getV_yes (hga.trans (if_neg (by rintro (e | e); exact hk e; exact hg e)))]
          exact ⟨rfl, S⟩

/-- an arena, whole, in memory -/
def ArV (w : World) (v : Value) (A : Ar) : Prop := ∃ na fa nc fc, v = arV na fa nc fc A ∧ A.nodes.length ≤ nc ∧ A.free.length ≤ fc ∧ ArR w na fa A
theorem ArV.sub {w w' v A} (h : ArV w v A) (s : Sub w w') : ArV w' v A := by
  obtain ⟨na, fa, nc, fc, h1, h2, h3, h4⟩ := h
  exact ⟨na, fa, nc, fc, h1, h2, h3, h4.sub s⟩

theorem c_cloneNodes (l : List Node) (a : Option Addr) (c : Nat) (w : World) (hs : Sl w a 16 (l.map Node.cells)) (hl : l.length ≤ 1000) :
    FC Try.prog 117 [.slice a l.length c] w (fun v w' => Ows w.heap.size w' 97 16 v (l.map Node.cells) ∧ Sub w w') := by
  refine FC.intro Try.func117 rfl Try.ntmps117 rfl ?_
  have S := Sub.refl w
  refine RC.seq ?_
  refine RC.region rfl ?_
  refine RL.ev (.assign rfl) rfl rfl ?_
  refine RL.nil (RC.back ?_)
  refine RC.seq ?_
  refine RC.seq ?_
  refine RC.region rfl ?_
  refine RL.ev (.move rfl) rfl rfl ?_
  refine RL.ev (.eqNil sl31 rfl) rfl rfl ?_
  refine RL.nil (RC.back ?_)
  refine RC.cond rfl (fun h1 => ?_) (fun h1 => ?_)
  ·
    have ha : a = none := Option.isNone_iff_eq_none.1 h1
    obtain rfl : l = [] := (by cases l with | nil => rfl | cons x l => exact absurd (hs.some (by simp)) (by simp [ha]))
    subst ha
    refine RC.seq ?_
    refine RC.region rfl ?_
    refine RL.ev (.assign rfl) rfl rfl ?_
    refine RL.nil (RC.back ?_)
    refine RC.done (rs := [.tmp 2]) (vs := [_]) rfl rfl ⟨rfl, trivial⟩ ?_
    -- end 1
    exact ⟨Ows.nil _ _ _ _, S⟩
  ·
    refine RC.skip (RC.back ?_)
    refine RC.seq ?_
    refine RC.region rfl ?_
    refine RL.buildSlice0 sl31 rfl rfl (fun b_5 w_5 e_5 z_5 hb_5 s_5 => ?_)
    have ge_5 := S.le e_5
    have S := S.trans s_5
    refine RL.ev (.move rfl) rfl rfl ?_
    have sz_7 := S.size
    have ltb_5_7 := hb_5.lt
    refine RL.append2 (base := w.heap.size) (rows := []) (news := l.map Node.cells) sl31 ze97 rfl rfl rfl rfl (.inl (Ows.lit0 hb_5 (by omega))) (hs.sub S) (by (try simp only [List.length_map]); first | done | rfl) (by intro r hr; obtain ⟨x, _, rfl⟩ := List.mem_map.1 hr; rfl) (by rw [List.all_eq_true]; intro r hr; obtain ⟨x, _, rfl⟩ := List.mem_map.1 hr; rfl) (by (try simp only [List.length_map, List.length_nil, List.length_append, List.length_cons]); omega) (by (try simp only [List.length_map, List.length_nil, List.length_append, List.length_cons]); omega) (by omega) rfl rfl (fun v_7 w_7 hc_7 ho_7 ag_7 ob_7 => ?_)
    have S := S.agrN ag_7 (fun k e => Nat.le_trans (by omega) e.2)
    refine RL.ev (.assign rfl) rfl rfl ?_
    refine RL.nil (RC.back ?_)
    refine RC.done (rs := [.tmp 2]) (vs := [_]) rfl rfl ⟨rfl, trivial⟩ ?_
    -- end 2
    exact ⟨ho_7 (.inr (Ows.lit0 hb_5 (by omega))), S⟩

end Go.Proofs.Ytbfjobmebkhblaa
set_option linter.unusedVariables false
set_option linter.unusedSimpArgs false
namespace Go.Proofs.Ytbfjobmebkhblaa
open Go Go.XL
def ar0 : Ar := ⟨[], []⟩
def arV0 : Value := .agg #[.slice none 0 0, .slice none 0 0]
/-- the first i of the places that are free in a new arena -/
def newFree (n i : Nat) : List Int := (List.range i).map fun (j : Nat) => (n : Int) - 1 - j
def newA (n : Nat) : Ar := ⟨List.replicate n (bareN 0), newFree n n⟩
theorem newFree_succ (n i : Nat) : newFree n (i + 1) = newFree n i ++ [(n : Int) - 1 - i] := by
  simp [newFree, List.range_succ]
theorem newFree_len (n i : Nat) : (newFree n i).length = i := by simp [newFree]

/-- what the new arena reads is new, or was read of the old one -/
def ArI (w w' : World) (na fa : Option Addr) (A : Ar) (na' fa' : Option Addr) (A' : Ar) : Prop :=
  ∀ N : Nat → Prop, (∀ k, N k → k < w.heap.size) → Imm N (fun u => ArR u na fa A) w → Imm N (fun u => ArR u na' fa' A') w'
theorem ArI.now {w w' na fa A na' fa' A'} (h : ArI w w' na fa A na' fa' A') (hA : ArR w na fa A) : ArR w' na' fa' A' :=
  (h (fun _ => False) (fun _ h => h.elim) (fun u hu => hA.sub hu.sub)).now
/-- an arena that is answered -/
def ArO (w w' : World) (na fa : Option Addr) (A : Ar) (v : Value) (A' : Ar) : Prop :=
  ∃ na' fa' nc' fc', v = arV na' fa' nc' fc' A' ∧ A'.nodes.length ≤ nc' ∧ A'.free.length ≤ fc' ∧ ArI w w' na fa A na' fa' A'
theorem c_aNew (n : Nat) (hn : 1 ≤ n ∧ n ≤ 512) (w : World) : FC Try.prog 29 [.int .i64 n] w (fun v w' => ∃ na fa nc fc, v = .tuple #[arV na fa nc fc (newA n), .int .i64 0] ∧ (newA n).nodes.length ≤ nc ∧ (newA n).free.length ≤ fc ∧ (∀ N : Nat → Prop, (∀ k, N k → k < w.heap.size) → Imm N (fun u => ArR u na fa (newA n)) w') ∧ Sub w w') := by
  refine FC.intro Try.func29 rfl Try.ntmps29 rfl ?_
  have S := Sub.refl w
  refine RC.seq ?_
  refine RC.region rfl ?_
  refine RL.alloc ze34 rfl rfl (fun b_2 w_2 e_2 z_2 hb_2 s_2 => ?_)
  have ge_2 := S.le e_2
  have S := S.trans s_2
  refine RL.ev (.assign rfl) rfl rfl ?_
  refine RL.nil (RC.back ?_)
  refine RC.seq ?_
  refine RC.seq ?_
  refine RC.region rfl ?_
  refine RL.ev (.move rfl) rfl rfl ?_
  refine RL.ev (.bin rfl rfl rfl) rfl rfl ?_
  refine RL.ev (.move rfl) rfl rfl ?_
  refine RL.split 8 rfl (fun h1 => ?_) (fun h1 => ?_)
  ·
    exact absurd h1 (by omega)
  ·
    refine RL.ev (.move rfl) rfl rfl ?_
    refine RL.ev (.bin rfl rfl rfl) rfl rfl ?_
    refine RL.ev (.pick_f rfl rfl) rfl rfl ?_
    refine RL.nil (RC.back ?_)
    refine RC.cond_dec rfl (fun h2 => ?_) (fun h2 => ?_)
    ·
      exact absurd h2 (by omega)
    ·
      refine RC.skip (RC.back ?_)
      refine RC.seq ?_
      refine RC.region rfl ?_
      refine RL.ev (.move rfl) rfl rfl ?_
      refine RL.makeSlice sl31 ze97 rfl rfl rfl rfl (by omega) rfl rfl (fun b_14 w_14 e_14 z_14 hb_14 s_14 => ?_)
      have ge_14 := S.le e_14
      have n_2__14 := hb_2.ne e_14
      have S := S.trans s_14
      have hb_2 := hb_2.sub s_14
      refine RL.ev (.buildS ze34 pl34 rfl rfl) rfl rfl ?_
      refine RL.alloc ze34 rfl rfl (fun b_4 w_4 e_4 z_4 hb_4 s_4 => ?_)
      have ge_4 := S.le e_4
      have n_2__4 := hb_2.ne e_4
      have n_14__4 := hb_14.ne e_4
      have S := S.trans s_4
      have hb_2 := hb_2.sub s_4
      have hb_14 := hb_14.sub s_4
      refine RL.store sh34 rfl rfl rfl hb_4 (by exact Nat.le_of_ble_eq_true rfl) (by rfl) rfl (fun w3 z3 hb_4 a3 => ?_)
      have S := S.upd a3 ge_4
      have hb_2 := hb_2.upd a3 n_2__4
      have hb_14 := hb_14.upd a3 n_14__4
      have hb_4 : Has w3 b_4 ([.slice (some ⟨b_14, 0, none⟩) n n, .slice none 0 0]) _ := hb_4.now (by kernel_rfl)
      refine RL.nil (RC.back ?_)
      refine RC.seq ?_
      refine RC.seq ?_
      refine RC.region rfl ?_
      refine RL.ev (.move rfl) rfl rfl ?_
      refine RL.ev (.move rfl) rfl rfl ?_
      have lt_2 := hb_2.lt
      have lt_4 := hb_4.lt
      have lt_14 := hb_14.lt
      obtain ⟨B, szB⟩ : ∃ B, B = w3.heap.size := ⟨_, rfl⟩
      refine RL.nil (RC.back ?_)
      refine RC.block ?_
      refine RC.loop (α := Nat × Value) (fun x => [(0, .int .i64 (n : Int)), (4, .pointer (some ⟨b_4, 0, none⟩)), (2, .pointer (some ⟨b_2, 0, none⟩)), (16, .int .i64 (n : Int)), (17, .int .i64 (x.1 : Int))]) (fun x w4 => x.1 ≤ n ∧ Ows B w4 3 1 x.2 ((newFree n x.1).map fun x => [i6 x]) ∧ Has w4 b_4 [.slice (some ⟨b_14, 0, none⟩) n n, x.2] 34 ∧ Has w4 b_2 [.slice none 0 0, .slice none 0 0] 34 ∧ Has w4 b_14 (List.replicate n (bareN 0).cells).flatten 97 ∧ B ≤ w4.heap.size ∧ Sub w w4) (fun x => n - x.1) (0, .slice none 0 0) (keep_of (by repeat (first | exact trivial | refine And.intro rfl ?_))) (⟨Nat.zero_le _, Ows.nil _ _ _ _, hb_4, hb_2, by have := hb_14; rw [Int.toNat_natCast] at this; exact this, by omega, S⟩) (fun x w4 hJ => ?_)
      obtain ⟨i, u⟩ := x; obtain ⟨hi, ho, hb_4, hb_2, hb_14, szB, S⟩ := hJ
      refine RC.seq ?_
      refine RC.region rfl ?_
      refine RL.ev (.bin rfl rfl rfl) rfl rfl ?_
      refine RL.nil (RC.back ?_)
      refine RC.seq ?_
      refine RC.cond_dec rfl (fun h5 => ?_) (fun h5 => ?_)
      ·
        refine RC.skip (RC.back ?_)
        refine RC.seq ?_
        refine RC.block ?_
        refine RC.seq ?_
        refine RC.region rfl ?_
        refine RL.ev (.move rfl) rfl rfl ?_
        refine RL.ev (.assign rfl) rfl rfl ?_
        refine RL.nil (RC.back ?_)
        refine RC.region rfl ?_
        refine RL.ev (.field0 fo34_1 rfl) rfl rfl ?_
        refine RL.ev (.load1 sh32 rfl (hb_4.cell rfl)) rfl rfl ?_
        refine RL.ev (.move rfl) rfl rfl ?_
        refine RL.ev (.as (.bin rfl rfl rfl) (wi64 (y := (n : Int) - 1) (by rfl) (by omega))) rfl rfl ?_
        refine RL.ev (.move rfl) rfl rfl ?_
        refine RL.ev (.as (.bin rfl rfl rfl) (wi64 (y := (n : Int) - 1 - (i : Int)) (by rfl) (by omega))) rfl rfl ?_
        refine RL.buildSlice1 sl32 _ ze3 rfl rfl rfl rfl rfl rfl rfl (fun b_26 w_26 e_26 z_26 hb_26 s_26 => ?_)
        have ge_26 := S.le e_26
        have n_2__26 := hb_2.ne e_26
        have n_4__26 := hb_4.ne e_26
        have n_14__26 := hb_14.ne e_26
        have S := S.trans s_26
        have hb_2 := hb_2.sub s_26
        have hb_4 := hb_4.sub s_26
        have hb_14 := hb_14.sub s_26
        have szB := Nat.le_trans szB s_26.size
        have ho := ho.sub s_26
        have sz_27 := S.size
        have ltb_2_27 := hb_2.lt
        have ltb_4_27 := hb_4.lt
        have ltb_14_27 := hb_14.lt
        have ltb_26_27 := hb_26.lt
        refine RL.append2 (base := B) (rows := (newFree n i).map fun x => [i6 x]) (news := [_]) sl32 ze3 rfl rfl rfl rfl (.inl ho) (Has.slOne hb_26) rfl (by intro r hr; rw [List.mem_singleton] at hr; subst hr; rfl) rfl (by (try simp only [List.length_map, List.length_nil, List.length_append, List.length_cons]); rw [newFree_len]; omega) (by (try simp only [List.length_map, List.length_nil, List.length_append, List.length_cons]); rw [newFree_len]; omega) (by omega) rfl rfl (fun v_27 w_27 hc_27 ho_27 ag_27 ob_27 => ?_)
        have S := S.agrN ag_27 (fun k e => Nat.le_trans (by omega) e.2)
        have hb_2 := hb_2.step ag_27 (fun e => absurd e.2 (by omega))
        have hb_4 := hb_4.step ag_27 (fun e => absurd e.2 (by omega))
        have hb_14 := hb_14.step ag_27 (fun e => absurd e.2 (by omega))
        have szB := Nat.le_trans szB ag_27.size
        have hO := ho_27 (.inl (by simp))
        rw [show (newFree n i).map (fun x => [i6 x]) ++ [_] = (newFree n (i + 1)).map (fun x => [i6 x]) from by rw [newFree_succ, List.map_append]; rfl] at hO
        obtain ⟨a_27, c_27, rfl, k_27⟩ := hO.form
        refine RL.ev (.field0 fo34_1 rfl) rfl rfl ?_
        refine RL.store sh32 rfl rfl rfl hb_4 (by exact Nat.le_of_ble_eq_true rfl) (by rfl) rfl (fun w6 z6 hb_4 a6 => ?_)
        have S := S.upd a6 ge_4
        have hb_2 := hb_2.upd a6 n_2__4
        have hb_14 := hb_14.upd a6 n_14__4
        have szB := Nat.le_trans szB a6.size
        have hO := hO.upd a6 (by omega)
        have hb_4 : Has w6 b_4 ([.slice (some ⟨b_14, 0, none⟩) n n, .slice a_27 ((newFree n (i + 1)).map fun x => [i6 x]).length c_27]) _ := hb_4
        refine RL.nil (RC.back ?_)
        refine RC.region rfl ?_
        refine RL.ev (.as (.bin rfl rfl rfl) (wi64 (y := ((i + 1 : Nat) : Int)) (by omega) (by omega))) rfl rfl ?_
        refine RL.ev (.move rfl) rfl rfl ?_
        exact RL.nil (fun a ka => ⟨(i + 1, _), ⟨by omega, hO, hb_4, hb_2, hb_14, szB, S⟩, by omega, ka.keep (keep_of (by repeat (first | exact trivial | refine And.intro rfl ?_)))⟩)
      ·
        obtain rfl : n = i := (by omega)
        obtain ⟨a_u, c_u, hu, k_u⟩ := ho.form
        simp only [] at hu
        subst hu
        refine RC.exit rfl (RC.back ?_)
        refine RC.seq ?_
        refine RC.region rfl ?_
        refine RL.ev (.loadR ([.slice (some ⟨b_14, 0, none⟩) n n, .slice a_u ((newFree n n).map fun x => [i6 x]).length c_u]) sh34 rfl hb_4.row rfl) rfl rfl ?_
        refine RL.store sh34 rfl rfl rfl hb_2 (by exact Nat.le_of_ble_eq_true rfl) (by rfl) rfl (fun w7 z7 hb_2 a7 => ?_)
        have S := S.upd a7 ge_2
        have hb_4 := hb_4.upd a7 n_2__4.symm
        have hb_14 := hb_14.upd a7 n_2__14.symm
        have szB := Nat.le_trans szB a7.size
        have ho := ho.upd a7 (by omega)
        have hb_2 : Has w7 b_2 ([.slice (some ⟨b_14, 0, none⟩) n n, .slice a_u ((newFree n n).map fun x => [i6 x]).length c_u]) _ := hb_2.now (by kernel_rfl)
        refine RL.ev (.assign rfl) rfl rfl ?_
        refine RL.nil (RC.back ?_)
        refine RC.done (rs := [.cell 2 34, .tmp 3]) (vs := [_, _]) rfl rfl ⟨⟨_, rfl, .inr ⟨[.slice (some ⟨b_14, 0, none⟩) n n, .slice a_u ((newFree n n).map fun x => [i6 x]).length c_u], sh34, hb_2.row, rfl⟩⟩, rfl, trivial⟩ ?_
        -- end 1
        refine ⟨some ⟨b_14, 0, none⟩, a_u, n, c_u, ?_, by simp [newA], by simpa [newA] using k_u, fun N hN W hW => ⟨?_, (ho.imm (N := N) (fun k hk => by have := hN k hk; omega)) W hW, ?_, ?_⟩, S⟩
        · simp only [arV, newA, List.length_replicate, List.length_map]; rfl
        · show Sl W _ 16 ((List.replicate n (bareN 0)).map Node.cells)
          rw [List.map_replicate]
          exact Has.sl0 (hb_14.step hW (fun e => by have := hN _ e; omega)) (fun r hr => by rw [(List.mem_replicate.1 hr).2]; rfl)
        · intro x hx
          rw [newA] at hx
          rw [(List.mem_replicate.1 hx).2]
          exact bareN_ok z64
        · intro x hx
          obtain ⟨j, hj, rfl⟩ := List.mem_map.1 hx
          have := List.mem_range.1 hj
          unfold I64
          omega

def x0 (x : Node) : Node := { x with gen := 0 }
theorem x0_ok {x : Node} (h : x.ok) : (x0 x).ok := ⟨h.kind, z64, h.n, h.v, h.s, h.kids, h.pre, h.suf⟩
/-- may a node be made? -/
def mayMake (A : Ar) (x : Node) : Prop := AOk A ∧ 1 ≤ x.kind ∧ x.kind ≤ 100 ∧ well (x0 x) = true
def lastAt (A : Ar) : Int := A.free.getD (A.free.length - 1) 0
def genAt (A : Ar) (p : Int) : Int := (A.nodes.getD p.toNat (bareN 0)).gen
def madeN (A : Ar) (x : Node) : Node := { x with gen := genAt A (lastAt A) }
def makeA (A : Ar) (x : Node) : Ar := ⟨A.nodes.set (lastAt A).toNat (madeN A x), A.free.take (A.free.length - 1)⟩
def makeR (A : Ar) : Int := ofR (lastAt A) (genAt A (lastAt A))
theorem lastAt_get {A : Ar} (h : 0 < A.free.length) : A.free[A.free.length - 1]? = some (lastAt A) := by
  rw [lastAt, List.getD_eq_getElem?_getD, List.getElem?_eq_getElem (by omega)]; rfl
theorem lastAt_in {A : Ar} (hA : AOk A) (h : 0 < A.free.length) : 0 ≤ lastAt A ∧ lastAt A < A.nodes.length := hA.free _ (List.mem_of_getElem? (lastAt_get h))
theorem genAt_get {A : Ar} {p : Int} {y : Node} (h : A.nodes[p.toNat]? = some y) : genAt A p = y.gen := by
  rw [genAt, List.getD_eq_getElem?_getD, h]; rfl
theorem genAt_rng {A : Ar} (hA : AOk A) {p : Int} (h : 0 ≤ p ∧ p < A.nodes.length) : 0 ≤ genAt A p ∧ genAt A p ≤ 1048576 := by
  obtain ⟨y, hy⟩ := getSome (l := A.nodes) (i := p.toNat) (by omega)
  rw [genAt_get hy]
  have := (well_iff y).1 (hA.well y (List.mem_of_getElem? hy))
  omega
theorem make_isR {A : Ar} (hA : AOk A) (h : 0 < A.free.length) : isR (lastAt A) (genAt A (lastAt A)) = true := by
  have h1 := lastAt_in hA h
  have h2 := genAt_rng hA h1
  have := hA.most
  rw [isR_iff]; omega

theorem c_aMake (A : Ar) (na fa : Option Addr) (nc fc : Nat) (x : Node) (hx : x.ok) (w : World) (hA : ArR w na fa A) (hfc : A.free.length ≤ fc) :
    FC Try.prog 112 [arV na fa nc fc A, x.val] w (fun v w' => Sub w w' ∧ (¬ mayMake A x ∧ v = .tuple #[arV0, .int .u64 0, .int .i64 1] ∨ mayMake A x ∧ A.free.length = 0 ∧ v = .tuple #[arV0, .int .u64 0, .int .i64 2] ∨
      mayMake A x ∧ 0 < A.free.length ∧ ∃ av, v = .tuple #[av, .int .u64 (makeR A), .int .i64 0] ∧ ArO w w' na fa A av (makeA A x))) := by
  have hN := hA.nodes
  have hFr := hA.free
  refine FC.intro Try.func112 rfl Try.ntmps112 rfl ?_
  have S := Sub.refl w
  have ek : (x0 x).kind = x.kind := rfl
  refine RC.seq ?_
  refine RC.region rfl ?_
  refine RL.box rfl rfl rfl (fun b_2 w_2 e_2 z_2 hb_2 s_2 => ?_)
  have ge_2 := S.le e_2
  have S := S.trans s_2
  have hb_2 : Has w_2 b_2 ([.slice na A.nodes.length nc, .slice fa A.free.length fc]) _ := hb_2
  refine RL.box rfl rfl rfl (fun b_3 w_3 e_3 z_3 hb_3 s_3 => ?_)
  have ge_3 := S.le e_3
  have n_2__3 := hb_2.ne e_3
  have S := S.trans s_3
  have hb_2 := hb_2.sub s_3
  have hb_3 : Has w_3 b_3 (x.cells) _ := hb_3
  refine RL.alloc ze34 rfl rfl (fun b_4 w_4 e_4 z_4 hb_4 s_4 => ?_)
  have ge_4 := S.le e_4
  have n_2__4 := hb_2.ne e_4
  have n_3__4 := hb_3.ne e_4
  have S := S.trans s_4
  have hb_2 := hb_2.sub s_4
  have hb_3 := hb_3.sub s_4
  refine RL.ev (.assign rfl) rfl rfl ?_
  refine RL.ev (.assign rfl) rfl rfl ?_
  refine RL.nil (RC.back ?_)
  refine RC.seq ?_
  refine RC.region rfl ?_
  refine RL.ev (.field0 fo97_1 rfl) rfl rfl ?_
  refine RL.store sh3 rfl rfl rfl hb_3 (by exact Nat.le_of_ble_eq_true rfl) (by rfl) rfl (fun w1 z1 hb_3 a1 => ?_)
  have S := S.upd a1 ge_3
  have hb_2 := hb_2.upd a1 n_2__3
  have hb_4 := hb_4.upd a1 n_3__4.symm
  have hb_3 : Has w1 b_3 ((x0 x).cells) _ := hb_3
  refine RL.nil (RC.back ?_)
  refine RC.seq ?_
  refine RC.block ?_
  refine RC.seq ?_
  refine RC.region rfl ?_
  refine RL.ev (.loadR ([.slice na A.nodes.length nc, .slice fa A.free.length fc]) sh34 rfl hb_2.row rfl) rfl rfl ?_
  refine RL.call rfl ok67 (c_aRight A na fa nc fc w1 (hA.sub S)) rfl rfl ?_
  rintro _ w2 ⟨rfl, s3⟩
  have S := S.trans s3
  have hb_2 := hb_2.sub s3
  have hb_3 := hb_3.sub s3
  have hb_4 := hb_4.sub s3
  refine RL.ev (.not rfl) rfl rfl ?_
  refine RL.ev (.move rfl) rfl rfl ?_
  refine RL.splitB 16 rfl (fun h4 => ?_) (fun h4 => ?_)
  ·
    have q1 : ¬ AOk A := (fun h => by have h2 := h4; rw [aokB_yes h] at h2; cases h2)
    refine RL.off rfl rfl ?_
    refine RL.off rfl rfl ?_
    refine RL.off rfl rfl ?_
    refine RL.ev (.pick_t rfl rfl) rfl rfl ?_
    refine RL.ev (.move rfl) rfl rfl ?_
    refine RL.off rfl rfl ?_
    refine RL.off rfl rfl ?_
    refine RL.off rfl rfl ?_
    refine RL.ev (.pick_t rfl rfl) rfl rfl ?_
    refine RL.ev (.move rfl) rfl rfl ?_
    refine RL.off rfl rfl ?_
    refine RL.off rfl rfl ?_
    refine RL.off rfl rfl ?_
    refine RL.ev (.pick_t rfl rfl) rfl rfl ?_
    refine RL.ev (.assign rfl) rfl rfl ?_
    refine RL.nil (RC.back ?_)
    refine RC.cond_t rfl ?_
    refine RC.seq ?_
    refine RC.region rfl ?_
    refine RL.ev (.buildS ze34 pl34 rfl rfl) rfl rfl ?_
    refine RL.store sh34 rfl rfl rfl hb_4 (by exact Nat.le_of_ble_eq_true rfl) (by rfl) rfl (fun w5 z5 hb_4 a5 => ?_)
    have S := S.upd a5 ge_4
    have hb_2 := hb_2.upd a5 n_2__4
    have hb_3 := hb_3.upd a5 n_3__4
    have hb_4 : Has w5 b_4 ([.slice none 0 0, .slice none 0 0]) _ := hb_4.now (by kernel_rfl)
    refine RL.ev (.assign rfl) rfl rfl ?_
    refine RL.ev (.assign rfl) rfl rfl ?_
    refine RL.nil (RC.back ?_)
    refine RC.done (rs := [.cell 4 34, .tmp 5, .tmp 6]) (vs := [_, _, _]) rfl rfl ⟨⟨_, rfl, .inr ⟨[.slice none 0 0, .slice none 0 0], sh34, hb_4.row, rfl⟩⟩, rfl, rfl, trivial⟩ ?_
    -- end 1
    exact ⟨S, .inl ⟨fun h => q1 h.1, rfl⟩⟩
  ·
    have hok : AOk A := (aokB_iff A).1 (by simpa using h4)
    have hmost := hok.most
    have hone := hok.one
    have hfit := hok.fit
    refine RL.ev (.field0 fo97_0 rfl) rfl rfl ?_
    refine RL.ev (.load1 sh3 rfl (hb_3.cell rfl)) rfl rfl ?_
    refine RL.ev (.bin rfl rfl rfl) rfl rfl ?_
    refine RL.ev (.pick_f rfl rfl) rfl rfl ?_
    refine RL.ev (.move rfl) rfl rfl ?_
    refine RL.split 21 rfl (fun h6 => ?_) (fun h6 => ?_)
    ·
      refine RL.off rfl rfl ?_
      refine RL.off rfl rfl ?_
      refine RL.off rfl rfl ?_
      refine RL.ev (.pick_t rfl rfl) rfl rfl ?_
      refine RL.ev (.move rfl) rfl rfl ?_
      refine RL.off rfl rfl ?_
      refine RL.off rfl rfl ?_
      refine RL.off rfl rfl ?_
      refine RL.ev (.pick_t rfl rfl) rfl rfl ?_
      refine RL.ev (.assign rfl) rfl rfl ?_
      refine RL.nil (RC.back ?_)
      refine RC.cond_t rfl ?_
      refine RC.seq ?_
      refine RC.region rfl ?_
      refine RL.ev (.buildS ze34 pl34 rfl rfl) rfl rfl ?_
      refine RL.store sh34 rfl rfl rfl hb_4 (by exact Nat.le_of_ble_eq_true rfl) (by rfl) rfl (fun w7 z7 hb_4 a7 => ?_)
      have S := S.upd a7 ge_4
      have hb_2 := hb_2.upd a7 n_2__4
      have hb_3 := hb_3.upd a7 n_3__4
      have hb_4 : Has w7 b_4 ([.slice none 0 0, .slice none 0 0]) _ := hb_4.now (by kernel_rfl)
      refine RL.ev (.assign rfl) rfl rfl ?_
      refine RL.ev (.assign rfl) rfl rfl ?_
      refine RL.nil (RC.back ?_)
      refine RC.done (rs := [.cell 4 34, .tmp 5, .tmp 6]) (vs := [_, _, _]) rfl rfl ⟨⟨_, rfl, .inr ⟨[.slice none 0 0, .slice none 0 0], sh34, hb_4.row, rfl⟩⟩, rfl, rfl, trivial⟩ ?_
      -- end 2
      exact ⟨S, .inl ⟨fun h => by have := h.2.1; omega, rfl⟩⟩
    ·
      refine RL.ev (.field0 fo97_0 rfl) rfl rfl ?_
      refine RL.ev (.load1 sh3 rfl (hb_3.cell rfl)) rfl rfl ?_
      refine RL.ev (.bin rfl rfl rfl) rfl rfl ?_
      refine RL.ev (.pick_f rfl rfl) rfl rfl ?_
      refine RL.ev (.move rfl) rfl rfl ?_
      refine RL.split 26 rfl (fun h8 => ?_) (fun h8 => ?_)
      ·
        refine RL.off rfl rfl ?_
        refine RL.off rfl rfl ?_
        refine RL.off rfl rfl ?_
        refine RL.ev (.pick_t rfl rfl) rfl rfl ?_
        refine RL.ev (.assign rfl) rfl rfl ?_
        refine RL.nil (RC.back ?_)
        refine RC.cond_t rfl ?_
        refine RC.seq ?_
        refine RC.region rfl ?_
        refine RL.ev (.buildS ze34 pl34 rfl rfl) rfl rfl ?_
        refine RL.store sh34 rfl rfl rfl hb_4 (by exact Nat.le_of_ble_eq_true rfl) (by rfl) rfl (fun w9 z9 hb_4 a9 => ?_)
        have S := S.upd a9 ge_4
        have hb_2 := hb_2.upd a9 n_2__4
        have hb_3 := hb_3.upd a9 n_3__4
        have hb_4 : Has w9 b_4 ([.slice none 0 0, .slice none 0 0]) _ := hb_4.now (by kernel_rfl)
        refine RL.ev (.assign rfl) rfl rfl ?_
        refine RL.ev (.assign rfl) rfl rfl ?_
        refine RL.nil (RC.back ?_)
        refine RC.done (rs := [.cell 4 34, .tmp 5, .tmp 6]) (vs := [_, _, _]) rfl rfl ⟨⟨_, rfl, .inr ⟨[.slice none 0 0, .slice none 0 0], sh34, hb_4.row, rfl⟩⟩, rfl, rfl, trivial⟩ ?_
        -- end 3
        exact ⟨S, .inl ⟨fun h => by have := h.2.2.1; omega, rfl⟩⟩
      ·
        refine RL.ev (.loadR ((x0 x).cells) sh97 rfl hb_3.row rfl) rfl rfl ?_
        refine RL.call rfl ok93 (c_well (x0 x) (x0_ok hx) w2) rfl rfl ?_
        rintro _ w10 ⟨rfl, s11⟩
        have S := S.trans s11
        have hb_2 := hb_2.sub s11
        have hb_3 := hb_3.sub s11
        have hb_4 := hb_4.sub s11
        refine RL.ev (.not rfl) rfl rfl ?_
        refine RL.ev (.pick_f rfl rfl) rfl rfl ?_
        refine RL.ev (.assign rfl) rfl rfl ?_
        refine RL.nil (RC.back ?_)
        refine RC.cond rfl (fun h12 => ?_) (fun h12 => ?_)
        ·
          have q2 := h12
          refine RC.seq ?_
          refine RC.region rfl ?_
          refine RL.ev (.buildS ze34 pl34 rfl rfl) rfl rfl ?_
          refine RL.store sh34 rfl rfl rfl hb_4 (by exact Nat.le_of_ble_eq_true rfl) (by rfl) rfl (fun w13 z13 hb_4 a13 => ?_)
          have S := S.upd a13 ge_4
          have hb_2 := hb_2.upd a13 n_2__4
          have hb_3 := hb_3.upd a13 n_3__4
          have hb_4 : Has w13 b_4 ([.slice none 0 0, .slice none 0 0]) _ := hb_4.now (by kernel_rfl)
          refine RL.ev (.assign rfl) rfl rfl ?_
          refine RL.ev (.assign rfl) rfl rfl ?_
          refine RL.nil (RC.back ?_)
          refine RC.done (rs := [.cell 4 34, .tmp 5, .tmp 6]) (vs := [_, _, _]) rfl rfl ⟨⟨_, rfl, .inr ⟨[.slice none 0 0, .slice none 0 0], sh34, hb_4.row, rfl⟩⟩, rfl, rfl, trivial⟩ ?_
          -- end 4
          exact ⟨S, .inl ⟨fun h => (by rw [h.2.2.2] at q2; cases q2), rfl⟩⟩
        ·
          have hm : mayMake A x := ⟨hok, by omega, by omega, by simpa using h12⟩
          refine RC.seq ?_
          refine RC.region rfl ?_
          refine RL.ev (.field0 fo34_1 rfl) rfl rfl ?_
          refine RL.ev (.load1 sh32 rfl (hb_2.cell rfl)) rfl rfl ?_
          refine RL.ev (.len sl32 rfl) rfl rfl ?_
          refine RL.ev (.bin rfl rfl rfl) rfl rfl ?_
          refine RL.ev (.assign rfl) rfl rfl ?_
          refine RL.nil (RC.back ?_)
          refine RC.cond_dec rfl (fun h14 => ?_) (fun h14 => ?_)
          ·
            refine RC.seq ?_
            refine RC.region rfl ?_
            refine RL.ev (.buildS ze34 pl34 rfl rfl) rfl rfl ?_
            refine RL.store sh34 rfl rfl rfl hb_4 (by exact Nat.le_of_ble_eq_true rfl) (by rfl) rfl (fun w15 z15 hb_4 a15 => ?_)
            have S := S.upd a15 ge_4
            have hb_2 := hb_2.upd a15 n_2__4
            have hb_3 := hb_3.upd a15 n_3__4
            have hb_4 : Has w15 b_4 ([.slice none 0 0, .slice none 0 0]) _ := hb_4.now (by kernel_rfl)
            refine RL.ev (.assign rfl) rfl rfl ?_
            refine RL.ev (.assign rfl) rfl rfl ?_
            refine RL.nil (RC.back ?_)
            refine RC.done (rs := [.cell 4 34, .tmp 5, .tmp 6]) (vs := [_, _, _]) rfl rfl ⟨⟨_, rfl, .inr ⟨[.slice none 0 0, .slice none 0 0], sh34, hb_4.row, rfl⟩⟩, rfl, rfl, trivial⟩ ?_
            -- end 5
            exact ⟨S, .inr (.inl ⟨hm, by omega, rfl⟩)⟩
          ·
            have hpos : 0 < A.free.length := (by omega)
            have hat := lastAt_in hok hpos
            have hgr := genAt_rng hok hat
            obtain ⟨y, hy⟩ := getSome (l := A.nodes) (i := (lastAt A).toNat) (by omega)
            have hgy := genAt_get hy
            refine RC.skip (RC.back ?_)
            refine RC.seq ?_
            refine RC.region rfl ?_
            refine RL.ev (.field0 fo34_1 rfl) rfl rfl ?_
            refine RL.ev (.load1 sh32 rfl (hb_2.cell rfl)) rfl rfl ?_
            refine RL.ev (.len sl32 rfl) rfl rfl ?_
            refine RL.ev (.as (.bin rfl rfl rfl) (wi64 (y := ((A.free.length - 1 : Nat) : Int)) (by omega) (by omega))) rfl rfl ?_
            refine RL.ev (.assign rfl) rfl rfl ?_
            refine RL.nil (RC.back ?_)
            refine RC.seq ?_
            refine RC.region rfl ?_
            refine RL.ev (.field0 fo34_1 rfl) rfl rfl ?_
            refine RL.ev (.load1 sh32 rfl (hb_2.cell rfl)) rfl rfl ?_
            refine RL.ev (.move rfl) rfl rfl ?_
            refine RL.ev (.indexS sl32 rfl rfl (by omega) (hFr.is (i := 0) (by simp only [List.length_map, List.length_cons, List.length_nil]; omega))) rfl rfl ?_
            refine RL.ev (.as (v' := .int .i64 (lastAt A)) (.load1 sh3 rfl ((hFr.sub S).one (enc := i6) (i := A.free.length - 1) (x := lastAt A) (by exact lastAt_get hpos))) (by rfl)) rfl rfl ?_
            refine RL.ev (.assign rfl) rfl rfl ?_
            refine RL.nil (RC.back ?_)
            refine RC.seq ?_
            refine RC.region rfl ?_
            refine RL.ev (.field0 fo34_0 rfl) rfl rfl ?_
            refine RL.ev (.load1 sh31 rfl (hb_2.cell rfl)) rfl rfl ?_
            refine RL.ev (.move rfl) rfl rfl ?_
            refine RL.ev (.indexS sl31 rfl rfl (by omega) (hN.is (i := 0) (by simp only [List.length_map, List.length_cons, List.length_nil]; omega))) rfl rfl ?_
            refine RL.ev (.fieldA fo97_1 rfl) rfl rfl ?_
            refine RL.ev (.as (v' := .int .i64 (genAt A (lastAt A))) (.load1 sh3 rfl ((hN.sub S).cell (enc := Node.cells) (j := 1) hy rfl)) (by rw [hgy])) rfl rfl ?_
            refine RL.ev (.field0 fo97_1 rfl) rfl rfl ?_
            refine RL.store sh3 rfl rfl rfl hb_3 (by exact Nat.le_of_ble_eq_true rfl) (by rfl) rfl (fun w16 z16 hb_3 a16 => ?_)
            have S := S.upd a16 ge_3
            have hb_2 := hb_2.upd a16 n_2__3
            have hb_4 := hb_4.upd a16 n_3__4.symm
            have hb_3 : Has w16 b_3 ((madeN A x).cells) _ := hb_3
            refine RL.nil (RC.back ?_)
            refine RC.cutx (α := Option Addr × Nat) (fun x_ => [(2, .pointer (some ⟨b_2, 0, none⟩)), (3, .pointer (some ⟨b_3, 0, none⟩)), (4, .pointer (some ⟨b_4, 0, none⟩)), (8, .int .i64 (lastAt A))]) (fun x_ w17 => ∃ B, b_2 < B ∧ b_3 < B ∧ b_4 < B ∧ w.heap.size ≤ B ∧ Ows B w17 97 16 (.slice x_.1 (A.nodes.map Node.cells).length x_.2) (A.nodes.map Node.cells) ∧ Has w17 b_2 [.slice x_.1 (A.nodes.map Node.cells).length x_.2, .slice fa (A.free.length - 1) (A.free.length - 1)] 34 ∧ Has w17 b_3 (madeN A x).cells 97 ∧ Has w17 b_4 [.slice none 0 0, .slice none 0 0] 34 ∧ Sub w w17) ?_ (fun x_ w17 hJ => ?_)
            ·
              refine RC.drawD (fun k => k = b_2) [9, 11] w16.heap.size 12 rfl rfl mxo (fun w18 s19 => ?_)
              have hNN : ∀ k, ((k = b_2) ∨ w16.heap.size ≤ k) → w.heap.size ≤ k := fun k e => e.elim (fun e => e ▸ ge_2) (fun e => Nat.le_trans S.size e)
              have ent_S := S.size
              have hN0 : ∀ k, w16.heap.size ≤ k → w.heap.size ≤ k := fun k e => Nat.le_trans S.size e
              have ltD_b_2 := hb_2.lt
              have ltD_b_3 := hb_3.lt
              have ltD_b_4 := hb_4.lt
              have szD := Nat.le_refl w16.heap.size
              have S := S.trans s19
              have hb_2 := hb_2.sub s19
              have hb_3 := hb_3.sub s19
              have hb_4 := hb_4.sub s19
              have szD := Nat.le_trans szD s19.size
              refine RD.take 0 rfl (by kernel_rfl) (by kernel_rfl) (by kernel_rfl) (fun w' s' => .field0 fo34_0 rfl) rfl rfl ?_
              refine RD.takeL 1 rfl (by kernel_rfl) (by kernel_rfl) (by kernel_rfl) (by kernel_rfl) (fun w' s' => .load1 sh31 rfl ((hb_2.step s' (fun e => Nat.not_le.2 ltD_b_2 e)).cell rfl)) rfl rfl ?_
              refine RD.take 3 rfl (by kernel_rfl) (by kernel_rfl) (by kernel_rfl) (fun w' s' => .field0 fo34_1 rfl) rfl rfl ?_
              refine RD.takeL 4 rfl (by kernel_rfl) (by kernel_rfl) (by kernel_rfl) (by kernel_rfl) (fun w' s' => .load1 sh32 rfl ((hb_2.step s' (fun e => Nat.not_le.2 ltD_b_2 e)).cell rfl)) rfl rfl ?_
              refine RD.take 5 rfl (by kernel_rfl) (by kernel_rfl) (by kernel_rfl) (fun w' s' => .move rfl) rfl rfl ?_
              refine RD.take 6 rfl (by kernel_rfl) (by kernel_rfl) (by kernel_rfl) (fun w' s' => .move rfl) rfl rfl ?_
              refine RD.take 7 rfl (by kernel_rfl) (by kernel_rfl) (by kernel_rfl) (fun w' s' => .sliceHM sl32 rfl rfl rfl (by omega)) rfl rfl ?_
              refine RD.all [2] (by kernel_rfl) rfl (RDs.cons rfl ?_ (RDs.nil))
              refine RL.call rfl ok117 (c_cloneNodes A.nodes na nc w18 (hN.sub S) (by omega)) rfl rfl ?_
              rintro u w20 ⟨ho, s21⟩
              have ltc := hb_2.lt
              have szC := szD
              have S := S.trans s21
              have hb_2 := hb_2.sub s21
              have hb_3 := hb_3.sub s21
              have hb_4 := hb_4.sub s21
              have szD := Nat.le_trans szD s21.size
              obtain ⟨ca, cc, rfl, kc⟩ := ho.form
              refine RD.back s21.agr ?_
              refine RD.take 8 rfl (by kernel_rfl) (by kernel_rfl) (by kernel_rfl) (fun w' s' => .field0 fo34_0 rfl) rfl rfl ?_
              refine RD.all [9] (by kernel_rfl) rfl (RDs.cons rfl ?_ (RDs.nil))
              refine RL.store sh31 rfl rfl rfl hb_2 (by exact Nat.le_of_ble_eq_true rfl) (by rfl) rfl (fun w22 z22 hb_2 a22 => ?_)
              have S := S.upd a22 ge_2
              have hb_3 := hb_3.upd a22 n_2__3.symm
              have hb_4 := hb_4.upd a22 n_2__4.symm
              have szD := Nat.le_trans szD a22.size
              have ho := ho.upd a22 (by omega)
              refine RD.backW rfl (a22.mono fun k _ e => e ▸ (.inl (rfl))) ?_
              refine RD.take 10 rfl (by kernel_rfl) (by kernel_rfl) (by kernel_rfl) (fun w' s' => .field0 fo34_1 rfl) rfl rfl ?_
              refine RD.all [11] (by kernel_rfl) rfl (RDs.cons rfl ?_ (RDs.nil))
              refine RL.store sh32 rfl rfl rfl hb_2 (by exact Nat.le_of_ble_eq_true rfl) (by rfl) rfl (fun w23 z23 hb_2 a23 => ?_)
              have S := S.upd a23 ge_2
              have hb_3 := hb_3.upd a23 n_2__3.symm
              have hb_4 := hb_4.upd a23 n_2__4.symm
              have szD := Nat.le_trans szD a23.size
              have ho := ho.upd a23 (by omega)
              refine RD.backW rfl (a23.mono fun k _ e => e ▸ (.inl (rfl))) ?_
              exact RD.done (by kernel_rfl) (fun a ka => ⟨(ca, cc), ⟨_, ltc, by have := ltD_b_3; have := szC; omega, by have := ltD_b_4; have := szC; omega, by omega, ho, hb_2, hb_3, hb_4, S⟩, ka.keep (keep_of (by repeat (first | exact trivial | refine And.intro rfl ?_)))⟩)
            obtain ⟨ca, cc⟩ := x_
            obtain ⟨B, q_2, q_3, q_4, q_w, ho, hb_2, hb_3, hb_4, S⟩ := hJ
            obtain ⟨b_C, cap_C, ex_C, f_C, g_C, k_C, m_C, hb_C, l_C⟩ := ho.has (by simp only [List.length_map]; omega)
            have ge_C := Nat.le_trans q_w g_C
            simp only [Value.slice.injEq, true_and] at f_C
            obtain ⟨rfl, rfl⟩ := f_C
            have nb_C_b_2 : b_C ≠ b_2 := by omega
            have nb_C_b_3 : b_C ≠ b_3 := by omega
            have nb_C_b_4 : b_C ≠ b_4 := by omega
            refine RC.seq ?_
            refine RC.region rfl ?_
            refine RL.ev (.field0 fo34_0 rfl) rfl rfl ?_
            refine RL.ev (.load1 sh31 rfl (hb_2.cell rfl)) rfl rfl ?_
            refine RL.ev (.move rfl) rfl rfl ?_
            refine RL.ev (.loadR ((madeN A x).cells) sh97 rfl hb_3.row rfl) rfl rfl ?_
            refine RL.ev (.indexO sl31 rfl rfl (by simp only [List.length_map]; omega)) rfl rfl ?_
            refine RL.store sh97 rfl rfl rfl hb_C (by rw [List.length_append, flat_len (sz := 16) _ (fun r hr => by obtain ⟨z, _, rfl⟩ := List.mem_map.1 hr; rfl), List.length_map]; show _ + 16 ≤ _; omega) (by rfl) rfl (fun w24 z24 hb_C a24 => ?_)
            have S := S.upd a24 ge_C
            have hb_2 := hb_2.upd a24 nb_C_b_2.symm
            have hb_3 := hb_3.upd a24 nb_C_b_3.symm
            have hb_4 := hb_4.upd a24 nb_C_b_4.symm
            rw [Nat.zero_add] at hb_C
            have hb_C := Has.row_set hb_C (fun r hr => by obtain ⟨z, _, rfl⟩ := List.mem_map.1 hr; rfl) (by rw [List.length_map]; omega) rfl
            refine RL.nil (RC.back ?_)
            refine RC.seq ?_
            refine RC.region rfl ?_
            refine RL.ev (.move rfl) rfl rfl ?_
            refine RL.ev (.field0 fo97_1 rfl) rfl rfl ?_
            refine RL.ev (.load1 sh3 rfl (hb_3.cell rfl)) rfl rfl ?_
            refine RL.call rfl ok118 (c_refOf' _ _ (make_isR hok hpos) w24) rfl rfl ?_
            rintro _ w25 ⟨rfl, s26⟩
            have S := S.trans s26
            have hb_2 := hb_2.sub s26
            have hb_3 := hb_3.sub s26
            have hb_4 := hb_4.sub s26
            have hb_C := hb_C.sub s26
            refine RL.ev (.move rfl) rfl rfl ?_
            refine RL.ev (.extract rfl rfl) rfl rfl ?_
            refine RL.ev (.extract rfl rfl) rfl rfl ?_
            refine RL.ev (.assign rfl) rfl rfl ?_
            refine RL.ev (.assign rfl) rfl rfl ?_
            refine RL.nil (RC.back ?_)
            refine RC.seq ?_
            refine RC.region rfl ?_
            refine RL.ev (.loadR ([.slice (some ⟨b_C, 0, none⟩) (A.nodes.map Node.cells).length cc, .slice fa (A.free.length - 1) (A.free.length - 1)]) sh34 rfl hb_2.row rfl) rfl rfl ?_
            refine RL.ev (.move rfl) rfl rfl ?_
            refine RL.ev (.move rfl) rfl rfl ?_
            refine RL.store sh34 rfl rfl rfl hb_4 (by exact Nat.le_of_ble_eq_true rfl) (by rfl) rfl (fun w27 z27 hb_4 a27 => ?_)
            have S := S.upd a27 ge_4
            have hb_2 := hb_2.upd a27 n_2__4
            have hb_3 := hb_3.upd a27 n_3__4
            have hb_C := hb_C.upd a27 nb_C_b_4
            have hb_4 : Has w27 b_4 ([.slice (some ⟨b_C, 0, none⟩) (A.nodes.map Node.cells).length cc, .slice fa (A.free.length - 1) (A.free.length - 1)]) _ := hb_4.now (by kernel_rfl)
            refine RL.ev (.assign rfl) rfl rfl ?_
            refine RL.ev (.assign rfl) rfl rfl ?_
            refine RL.nil (RC.back ?_)
            refine RC.done (rs := [.cell 4 34, .tmp 5, .tmp 6]) (vs := [_, _, _]) rfl rfl ⟨⟨_, rfl, .inr ⟨[.slice (some ⟨b_C, 0, none⟩) (A.nodes.map Node.cells).length cc, .slice fa (A.free.length - 1) (A.free.length - 1)], sh34, hb_4.row, rfl⟩⟩, rfl, rfl, trivial⟩ ?_
            -- end 6
            refine ⟨S, .inr (.inr ⟨hm, hpos, arV (some ⟨b_C, 0, none⟩) fa cc (A.free.length - 1) (makeA A x), ?_, _, _, _, _, rfl, ?_, ?_, fun N hN hI W hW => ⟨?_, ?_, ?_, ?_⟩⟩)⟩
            · show tup [Value.agg _, _, _] = _
              simp only [arV, makeA, List.length_set, List.length_take, List.length_map]
              rw [Nat.min_eq_left (by omega)]
              rfl
            · simpa [makeA] using k_C
            · simp only [makeA, List.length_take]; omega
            · show Sl W _ 16 ((makeA A x).nodes.map Node.cells)
              rw [makeA, List.map_set]
              exact Has.sl (hb_C.step hW (fun e => by have := hN _ e; omega)) (fun r hr => (List.mem_or_eq_of_mem_set hr).elim (fun hr => by obtain ⟨z, _, rfl⟩ := List.mem_map.1 hr; rfl) (fun e => e ▸ rfl))
            · show Sl W _ 1 ((makeA A x).free.map fun x => [i6 x])
              rw [makeA, List.map_take]
              exact ((hI.sub S) W hW).free.take _
            · intro z hz
              rcases List.mem_or_eq_of_mem_set hz with hz | rfl
              · exact hA.nok z hz
              · exact ⟨hx.kind, by unfold I64; show _ ≤ genAt A (lastAt A) ∧ genAt A (lastAt A) ≤ _; omega, hx.n, hx.v, hx.s, hx.kids, hx.pre, hx.suf⟩
            · exact fun z hz => hA.fok z (List.mem_of_mem_take hz)
end Go.Proofs.Ytbfjobmebkhblaa
set_option linter.unusedVariables false
set_option linter.unusedSimpArgs false
namespace Go.Proofs.Ytbfjobmebkhblaa
open Go Go.XL
theorem pigeon : ∀ (n : Nat) (l : List Int), l.Nodup → (∀ x ∈ l, 0 ≤ x ∧ x < n) → l.length ≤ n
  | 0, l, _, h => by
    cases l with
    | nil => simp
    | cons x l => have := h x (by simp); omega
  | n + 1, l, hn, h => by
    have h1 : ∀ x ∈ l.erase (n : Int), 0 ≤ x ∧ x < n := fun x hx => by
      have := (hn.mem_erase_iff).1 hx
      have := h x this.2
      omega
    have := pigeon n (l.erase (n : Int)) (hn.erase _) h1
    by_cases hm : (n : Int) ∈ l
    · rw [List.length_erase_of_mem hm] at this; omega
    · rw [List.erase_of_not_mem hm] at this; omega
end Go.Proofs.Ytbfjobmebkhblaa
set_option linter.unusedVariables false
set_option linter.unusedSimpArgs false
namespace Go.Proofs.Ytbfjobmebkhblaa
open Go Go.XL
theorem mem_newFree {n : Nat} {x : Int} : x ∈ newFree n n ↔ 0 ≤ x ∧ x < n := by
  unfold newFree
  rw [List.mem_map]
  constructor
  · rintro ⟨j, hj, rfl⟩
    have := List.mem_range.1 hj
    omega
  · intro h
    exact ⟨((n : Int) - 1 - x).toNat, List.mem_range.2 (by omega), by omega⟩
theorem newFree_nodup (n : Nat) : ∀ i, (newFree n i).Nodup
  | 0 => by simp [newFree]
  | i + 1 => by
    rw [newFree_succ, List.nodup_append]
    refine ⟨newFree_nodup n i, by simp, fun a ha b hb e => ?_⟩
    rw [List.mem_singleton] at hb
    subst hb; subst e
    obtain ⟨j, hj, h⟩ := List.mem_map.1 ha
    have := List.mem_range.1 hj
    omega
theorem newA_ok {n : Nat} (h : 1 ≤ n ∧ n ≤ 512) : AOk (newA n) := by
  have hl : (newA n).nodes.length = n := by simp [newA]
  have key : ∀ (i : Nat) x, (newA n).nodes[i]? = some x → x = bareN 0 ∧ i < n := fun i x hx => by
    have h1 := lt_of_get hx
    have h2 := List.mem_of_getElem? hx
    exact ⟨(List.mem_replicate.1 h2).2, by omega⟩
  refine ⟨by omega, by omega, by rw [hl]; simp [newA, newFree_len], ?_, newFree_nodup n n, ?_, ?_, ?_⟩
  · intro x hx; rw [hl]; exact mem_newFree.1 hx
  · intro x hx; rw [(List.mem_replicate.1 hx).2]; rfl
  · intro i x hx
    obtain ⟨rfl, hi⟩ := key i x hx
    exact ⟨fun _ => mem_newFree.2 (by omega), fun _ => rfl⟩
  · intro i x hx _
    obtain ⟨rfl, hi⟩ := key i x hx
    rfl
theorem take_last_mem {l : List Int} (hn : l.Nodup) (h : 0 < l.length) {p : Int} (hp : l[l.length - 1]? = some p) (x : Int) : x ∈ l.take (l.length - 1) ↔ x ∈ l ∧ x ≠ p := by
  have e : l = l.take (l.length - 1) ++ [p] := by
    have := List.take_append_drop (l.length - 1) l
    conv => lhs; rw [← this]
    congr 1
    rw [List.drop_eq_getElem_cons (by omega), getElem_of hp (by omega), List.drop_eq_nil_of_le (by omega)]
  have hn2 := hn
  rw [e, List.nodup_append] at hn2
  constructor
  · intro hx
    exact ⟨List.mem_of_mem_take hx, fun h => hn2.2.2 x hx p (by simp) h⟩
  · rintro ⟨hx, hne⟩
    rw [e] at hx
    exact (List.mem_append.1 hx).resolve_right (by simpa using hne)
theorem make_get {A : Ar} {x : Node} (hA : AOk A) (h : 0 < A.free.length) {i : Nat} {y : Node} (hy : (makeA A x).nodes[i]? = some y) : (i : Int) = lastAt A ∧ y = madeN A x ∨ ¬ (i : Int) = lastAt A ∧ A.nodes[i]? = some y := by
  have hin := lastAt_in hA h
  simp only [makeA, List.getElem?_set] at hy
  split at hy
  · split at hy
    · cases hy; exact .inl ⟨by omega, rfl⟩
    · cases hy
  · exact .inr ⟨by omega, hy⟩
theorem madeN_well {A : Ar} {x : Node} (hm : mayMake A x) (h : 0 < A.free.length) : well (madeN A x) = true := by
  have hg := genAt_rng hm.1 (lastAt_in hm.1 h)
  have hw := (well_iff (x0 x)).1 hm.2.2.2
  rw [well_iff]
  exact ⟨⟨hg.1, hg.2, hw.1.2.2⟩, hw.2⟩
theorem make_ok {A : Ar} {x : Node} (hm : mayMake A x) (h : 0 < A.free.length) : AOk (makeA A x) := by
  have hA := hm.1
  have hin := lastAt_in hA h
  have hl : (makeA A x).nodes.length = A.nodes.length := by simp [makeA]
  have hmem := take_last_mem hA.nodup h (lastAt_get h)
  have hk : ¬ (madeN A x).kind = 0 := by have := hm.2.1; show ¬ x.kind = 0; omega
  refine ⟨by rw [hl]; exact hA.one, by rw [hl]; exact hA.most, ?_, ?_, ?_, ?_, ?_, ?_⟩
  · rw [hl]; simp only [makeA, List.length_take]; have := hA.fit; omega
  · intro y hy; rw [hl]; exact hA.free y (List.mem_of_mem_take hy)
  · exact hA.nodup.sublist (List.take_sublist _ _)
  · intro y hy
    obtain ⟨i, hi⟩ := List.getElem?_of_mem hy
    rcases make_get hA h hi with ⟨_, rfl⟩ | ⟨_, hi⟩
    · exact madeN_well hm h
    · exact hA.well y (List.mem_of_getElem? hi)
  · intro i y hy
    show _ ↔ (i : Int) ∈ A.free.take _
    rw [hmem]
    rcases make_get hA h hy with ⟨e, rfl⟩ | ⟨ne, hi⟩
    · exact ⟨fun h => absurd h hk, fun h => absurd e h.2⟩
    · rw [hA.kind i y hi]; exact ⟨fun h => ⟨h, ne⟩, fun h => h.1⟩
  · intro i y hy hf
    have hf2 := (hmem _).1 hf
    rcases make_get hA h hy with ⟨e, rfl⟩ | ⟨ne, hi⟩
    · exact absurd e hf2.2
    · exact hA.bare i y hi hf2.1
theorem get_made {A : Ar} {x : Node} (hm : mayMake A x) (h : 0 < A.free.length) : getA (makeA A x) (makeR A) = some (madeN A x) := by
  have hi := make_isR hm.1 h
  have hin := lastAt_in hm.1 h
  have hp := placeR_of hi
  have hg := genR_of hi
  rw [show ofR (lastAt A) (genAt A (lastAt A)) = makeR A from rfl] at hp hg
  have hk : ¬ (madeN A x).kind = 0 := by have := hm.2.1; show ¬ x.kind = 0; omega
  rw [getA_at (by omega) (x := madeN A x) (by rw [hp]; simp only [makeA]; rw [List.getElem?_set_self (by omega)]), if_neg]
  rintro (e | e)
  · exact hk e
  · exact e (by rw [hg]; rfl)
end Go.Proofs.Ytbfjobmebkhblaa
set_option linter.unusedVariables false
set_option linter.unusedSimpArgs false
namespace Go.XL
open Go
def fitR : Option IntKind → Value → Prop
  | some k, .int k' a => k' = k ∧ (Lit.int k a).wf = true
  | none, .bool _ => True
  | _, _ => False
def fitsR : List (Option IntKind) → List Value → Prop
  | [], [] => True
  | k :: ks, v :: vs => fitR k v ∧ fitsR ks vs
  | _, _ => False
theorem fitsR_app : ∀ {ks ks' : List (Option IntKind)} {xs ys : List Value}, fitsR ks xs → fitsR ks' ys → fitsR (ks ++ ks') (xs ++ ys)
  | [], _, [], _, _, h => h
  | _ :: _, _, _ :: _, _, h, h' => ⟨h.1, fitsR_app h.2 h'⟩
  | [], _, _ :: _, _, h, _ => h.elim
  | _ :: _, _, [], _, h, _ => h.elim
theorem fitR_int {k : IntKind} {v : Value} (h : fitR (some k) v) : ∃ a, v = .int k a ∧ (Lit.int k a).wf = true := by
  cases v <;> simp [fitR] at h
  obtain ⟨rfl, h⟩ := h
  exact ⟨_, rfl, h⟩
theorem fitR_bool {v : Value} (h : fitR none v) : ∃ b, v = .bool b := by
  cases v <;> simp [fitR] at h
  exact ⟨_, rfl⟩
theorem fitsR_cons {k ks xs} (h : fitsR (k :: ks) xs) : ∃ v vs, xs = v :: vs ∧ fitR k v ∧ fitsR ks vs := by
  cases xs with
  | nil => exact h.elim
  | cons v vs => exact ⟨v, vs, rfl, h.1, h.2⟩
theorem fitsR_nil {xs} (h : fitsR [] xs) : xs = [] := by
  cases xs with
  | nil => rfl
  | cons v vs => exact h.elim

section
variable {H : Type} {enc : TypeId × Value → H} {P : Program} {w : World} {base : Nat} {spare : Nat → Bool} {held : Bool}
theorem cellsOf_shape {t b s} (h : shapeOf P t = some (b, s)) : P.cellsOf t = s := by
  obtain ⟨d, i, h1, h2, h3, h4⟩ := shapeOf_spec h
  simp [Program.cellsOf, h2, h4]

theorem fields_flat {k : Nat} (IH : ∀ {t ks n cs x}, flatK P k t = some ks → cs.length = ks.length → DataW.trod enc P w base spare held n t cs = some x → fitsR ks cs) :
    ∀ (fs : List Field) (o : Nat) (ks : List (Option IntKind)) (cs : List Value), fieldsK P (flatK P k) o fs = some ks → cs.length = o + ks.length →
      (∀ f ∈ fs, ∃ n x, DataW.trod enc P w base spare held n f.type ((cs.drop f.offset).take (P.cellsOf f.type)) = some x) → fitsR ks (cs.drop o)
  | [], o, ks, cs, h, hl, _ => by
    simp only [fieldsK, Option.some.injEq] at h
    subst h
    rw [List.drop_eq_nil_of_le (by simp at hl; omega)]
    trivial
  | f :: fs, o, ks, cs, h, hl, hf => by
    simp only [fieldsK] at h
    split at h
    · cases h
    rename_i hno
    split at h
    · cases h
    rename_i l hl1
    split at h
    · cases h
    rename_i b s hs
    split at h
    · cases h
    rename_i hsl
    have hsl' : s = l.length := Decidable.byContradiction hsl
    split at h
    · cases h
    rename_i r hr
    cases h
    have ho : f.offset = o := Decidable.byContradiction fun e => hno (.inr e)
    obtain ⟨n, x, hx⟩ := hf f (by simp)
    rw [ho, cellsOf_shape hs] at hx
    have h1 := IH hl1 (by rw [List.length_take, List.length_drop, hl, List.length_append]; omega) hx
    have h2 := fields_flat IH fs (o + s) r cs hr (by rw [hl, List.length_append]; omega) (fun g hg => hf g (by simp [hg]))
    have e : cs.drop o = (cs.drop o).take s ++ cs.drop (o + s) := by
      rw [← List.drop_drop, List.take_append_drop]
    rw [e]
    exact fitsR_app h1 h2

theorem elems_flat {l : List (Option IntKind)} {s : Nat} (hs : s = l.length) : ∀ (n : Nat) (cs : List Value), cs.length = n * s → (∀ i, i < n → fitsR l ((cs.drop (i * s)).take s)) → fitsR (List.replicate n l).flatten cs
  | 0, cs, hl, _ => by
    have : cs = [] := List.eq_nil_of_length_eq_zero (by simpa using hl)
    subst this
    trivial
  | n + 1, cs, hl, h => by
    rw [Nat.succ_mul] at hl
    rw [List.replicate_succ, List.flatten_cons, ← List.take_append_drop s cs]
    refine fitsR_app (by simpa using h 0 (by omega)) (elems_flat hs n (cs.drop s) (by rw [List.length_drop]; omega) fun i hi => ?_)
    have := h (i + 1) (by omega)
    rwa [Nat.succ_mul, Nat.add_comm, ← List.drop_drop] at this

theorem trod_flat : ∀ (k : Nat) {t ks n cs x}, flatK P k t = some ks → cs.length = ks.length → DataW.trod enc P w base spare held n t cs = some x → fitsR ks cs
  | 0, t, ks, n, cs, x, h, _, _ => by simp [flatK] at h
  | k + 1, t, ks, n, cs, x, h, hl, hx => by
    rw [flatK] at h
    split at h
    · rename_i kd hu
      cases h
      obtain ⟨a, rfl, _, hw⟩ := DataW.trod_int hu hx
      exact ⟨⟨rfl, hw⟩, trivial⟩
    · rename_i hu
      cases h
      obtain ⟨b, rfl, _⟩ := DataW.trod_bool hu hx
      exact ⟨trivial, trivial⟩
    · rename_i fs hu
      split at h
      · cases h
      obtain ⟨xs, m, rfl, rfl, hlen, hxl, hf⟩ := DataW.trod_struct hu hx
      have key : ∀ f ∈ fs.toList, ∃ n x, DataW.trod enc P w base spare held n f.type ((cs.drop f.offset).take (P.cellsOf f.type)) = some x := fun f hfm => by
        obtain ⟨i, hi, he⟩ := List.getElem_of_mem hfm
        have hi' : i < fs.size := by simpa using hi
        have := hf i f (by rw [Array.getElem?_eq_getElem hi']; simpa using he)
        rw [List.getElem?_eq_getElem (by omega)] at this
        exact ⟨m, _, this⟩
      have := fields_flat (fun h hl hx => trod_flat k h hl hx) fs.toList 0 ks cs h (by omega) key
      simpa using this
    · rename_i len e hu
      split at h
      · cases h
      rename_i l hl1
      split at h
      · cases h
      rename_i b s hs
      split at h
      · cases h
      rename_i hsl
      have hsl' : s = l.length := Decidable.byContradiction hsl
      cases h
      obtain ⟨xs, m, rfl, rfl, hlen, hxl, hf⟩ := DataW.trod_array hu hx
      rw [cellsOf_shape hs] at hf
      have hcl : cs.length = len * s := by rw [hl, List.length_flatten]; simp [hsl']
      refine elems_flat hsl' len cs hcl fun i hi => ?_
      have := hf i hi
      rw [List.getElem?_eq_getElem (by omega)] at this
      have hle : (i + 1) * s ≤ len * s := Nat.mul_le_mul_right _ hi
      rw [Nat.succ_mul] at hle
      exact trod_flat k hl1 (by rw [List.length_take, List.length_drop]; omega) this
    · cases h

/-- a slice of what is flat, opened -/
theorem trod_sl {t e s by_ ks n cs x} (ht : sliceOf P t = some (e, s, by_)) (hk : flatK P 6 e = some ks) (hs : s = ks.length) (h : DataW.trod enc P w base spare held n t cs = some x) :
    ∃ (a : Option Addr) (rows : List (List Value)) (c : Nat), cs = [.slice a rows.length c] ∧ rows.length ≤ c ∧ c ≤ maxLen ∧ Sl w a s rows ∧ ∀ r ∈ rows, fitsR ks r := by
  obtain ⟨h1, i, h2, h3, h4⟩ := sliceOf_spec ht
  have hc : P.cellsOf e = s := by simp [Program.cellsOf, h2, h3]
  rcases Go.Deep.open_slice h1 h with ⟨rfl, rfl⟩ | ⟨a, len, cap, m, n', D, Pl, rfl, hb, hlc, hcm, hm, rfl, hel⟩
  · exact ⟨none, [], 0, rfl, Nat.le_refl _, Nat.zero_le _, Sl.nil _ _ _, by simp⟩
  · rw [hc] at hel
    have hlm : len ≤ m := by rw [hm]; split <;> omega
    let f : Nat → List Value := fun i => (w.cells? base (a.add (i * s)) s).getD []
    have hf : ∀ i, i < len → w.cells? base (a.add (i * s)) s = some (f i) ∧ fitsR ks (f i) := fun i hi => by
      obtain ⟨cs', g1, g2⟩ := hel i (by omega)
      have hl := (World.cells?_some g1).2.1
      have e : f i = cs' := by simp only [f, g1, Option.getD_some]
      rw [e]
      exact ⟨g1, trod_flat 6 hk (by omega) g2⟩
    have hlen : ((List.range len).map f).length = len := by simp
    refine ⟨some a, (List.range len).map f, cap, by rw [hlen], by omega, hcm, ⟨fun _ => rfl, fun i r hr => ?_⟩, fun r hr => ?_⟩
    · rw [List.getElem?_map] at hr
      by_cases hi : i < len
      · rw [List.getElem?_range hi] at hr
        cases hr
        obtain ⟨_, g2, g3⟩ := World.cells?_some (hf i hi).1
        intro j v hj
        have hjl : j < s := by
          rw [← g2]
          rcases Nat.lt_or_ge j (f i).length with q | q
          · exact q
          · rw [List.getElem?_eq_none q] at hj; cases hj
        simp only [Option.getD_some]
        rw [g3 j hjl, hj]
      · rw [List.getElem?_eq_none (by simpa using hi)] at hr; cases hr
    · obtain ⟨i, hi, rfl⟩ := List.mem_map.1 hr
      exact (hf i (List.mem_range.1 hi)).2
theorem rows_of {α : Type} {enc : α → List Value} {ok : α → Prop} : ∀ (rows : List (List Value)), (∀ r ∈ rows, ∃ x, r = enc x ∧ ok x) → ∃ l : List α, rows = l.map enc ∧ ∀ x ∈ l, ok x
  | [], _ => ⟨[], rfl, by simp⟩
  | r :: rows, h => by
    obtain ⟨x, rfl, hx⟩ := h r (by simp)
    obtain ⟨l, rfl, hl⟩ := rows_of rows (fun r hr => h r (by simp [hr]))
    exact ⟨x :: l, rfl, by intro y hy; rcases List.mem_cons.1 hy with rfl | hy; exact hx; exact hl y hy⟩
/-- a value of a slice's type that reads -/
theorem open_sl {α : Type} (f : α → List Value) (ok : α → Prop) {t e s by_ ks v d ps r b} (ht : sliceOf P t = some (e, s, by_)) (hk : flatK P 6 e = some ks) (hs : s = ks.length) (hf : ∀ r, fitsR ks r → ∃ x, r = f x ∧ ok x) (hok : Value.okWide P w r b t v) (h : DataW.Trod enc P w base spare held t v d ps) :
    ∃ (a : Option Addr) (l : List α) (c : Nat), v = .slice a l.length c ∧ l.length ≤ c ∧ c ≤ maxLen ∧ Sl w a s (l.map f) ∧ ∀ x ∈ l, ok x := by
  obtain ⟨n, hn⟩ := h
  obtain ⟨a, rows, c, h1, h2, h3, h4, h5⟩ := trod_sl ht hk hs hn
  obtain ⟨l, rfl, hl⟩ := rows_of rows (fun r hr => hf r (h5 r hr))
  rw [List.length_map] at h1 h2
  have hv : v = .slice a l.length c := by
    have hu := (sliceOf_spec ht).1
    cases v with
    | agg cs => simp [Value.okWide, hu, Cell.okWide, Cell.ok] at hok
    | slice a' n' c' => simpa [Value.cells] using h1
    | _ => simp [Value.cells] at h1
  exact ⟨a, l, c, hv, h2, h3, h4, hl⟩
end
end Go.XL
set_option linter.unusedVariables false
set_option linter.unusedSimpArgs false
namespace Go.Proofs.Ytbfjobmebkhblaa
open Go Go.XL
theorem wfI {a : Int} (h : (Lit.int .i64 a).wf = true) : I64 a := by
  simp [Lit.wf, IntKind.min, IntKind.max, IntKind.signed, IntKind.bits] at h
  unfold I64
  omega
theorem fitI {v : Value} (h : fitR (some .i64) v) : ∃ a, v = .int .i64 a ∧ I64 a := by
  obtain ⟨a, h1, h2⟩ := fitR_int h
  exact ⟨a, h1, wfI h2⟩
def n7 : Node := ⟨1, 0, 7, 0, 0, 0, 0, 0, 0, 0, 0, 0, 0, 0, 0, 0⟩
end Go.Proofs.Ytbfjobmebkhblaa
set_option linter.unusedVariables false
set_option linter.unusedSimpArgs false
namespace Go.Proofs.Ytbfjobmebkhblaa
open Go Go.XL
theorem ar0_I (w w' : World) (na fa : Option Addr) (A : Ar) : ArI w w' na fa A none none ar0 := fun N _ _ u _ => ⟨Sl.nil _ _ _, Sl.nil _ _ _, by simp [ar0], by simp [ar0]⟩
/-- what is answered of a call, in one form -/
theorem make_form {A : Ar} {x : Node} {w w' : World} {na fa : Option Addr} {v : Value} (h : ¬ mayMake A x ∧ v = .tuple #[arV0, .int .u64 0, .int .i64 1] ∨ mayMake A x ∧ A.free.length = 0 ∧ v = .tuple #[arV0, .int .u64 0, .int .i64 2] ∨
      mayMake A x ∧ 0 < A.free.length ∧ ∃ av, v = .tuple #[av, .int .u64 (makeR A), .int .i64 0] ∧ ArO w w' na fa A av (makeA A x)) :
    ∃ na' fa' nc' fc' B r e, v = .tuple #[arV na' fa' nc' fc' B, .int .u64 r, .int .i64 e] ∧ B.nodes.length ≤ nc' ∧ B.free.length ≤ fc' ∧ ArI w w' na fa A na' fa' B ∧
      (e = 0 → mayMake A x ∧ 0 < A.free.length ∧ B = makeA A x ∧ r = makeR A) ∧ (¬ e = 0 → B = ar0 ∧ r = 0 ∧ (¬ mayMake A x ∧ e = 1 ∨ mayMake A x ∧ A.free.length = 0 ∧ e = 2)) := by
  rcases h with ⟨h1, rfl⟩ | ⟨h1, h2, rfl⟩ | ⟨h1, h2, av, rfl, na', fa', nc', fc', rfl, h3, h4, h5⟩
  · exact ⟨none, none, 0, 0, ar0, 0, 1, rfl, by decide, by decide, ar0_I _ _ _ _ _, fun h => absurd h (by decide), fun _ => ⟨rfl, rfl, .inl ⟨h1, rfl⟩⟩⟩
  · exact ⟨none, none, 0, 0, ar0, 0, 2, rfl, by decide, by decide, ar0_I _ _ _ _ _, fun h => absurd h (by decide), fun _ => ⟨rfl, rfl, .inr ⟨h1, h2, rfl⟩⟩⟩
  · exact ⟨na', fa', nc', fc', _, _, 0, rfl, h3, h4, h5, fun _ => ⟨h1, h2, rfl, rfl⟩, fun h => absurd rfl h⟩
end Go.Proofs.Ytbfjobmebkhblaa
set_option linter.unusedVariables false
set_option linter.unusedSimpArgs false
namespace Go.Proofs.Ytbfjobmebkhblaa
open Go Go.XL
structure Ft (M : Nat → Prop) (I : World → Prop) (w : World) : Prop where
  lt : ∀ k, M k → k < w.heap.size
  imm : ∀ w', Agr (fun k => ¬ M k) w w' → I w'
theorem Ft.now {M I w} (h : Ft M I w) : I w := h.imm w (Agr.refl _ _)
theorem Ft.step {M I w w'} {N : Nat → Prop} (h : Ft M I w) (a : Agr N w w') (hn : ∀ k, M k → ¬ N k) : Ft M I w' :=
  ⟨fun k hk => Nat.lt_of_lt_of_le (h.lt k hk) a.size, fun w'' a' => h.imm w'' ((a.mono fun k _ e hk => hn k hk e).trans a')⟩
theorem Ft.sub {M I w w'} (h : Ft M I w) (s : Sub w w') : Ft M I w' := h.step (N := fun _ => False) s.agr (fun _ _ e => e)
theorem Ft.updD {M I w w' b} (h : Ft M I w) (a : Agr (· = b) w w') (d : ∀ k, M k → k ≠ b) : Ft M I w' := h.step a d
theorem Ft.neNew {M I w b} (h : Ft M I w) (hb : b = w.heap.size) : ∀ k, M k → k ≠ b := fun k hk e => absurd (h.lt k hk) (by omega)
theorem Ft.ge {M I w} (h : Ft M I w) : ∀ k, M k → 0 ≤ k ∧ k < w.heap.size := fun k hk => ⟨Nat.zero_le _, h.lt k hk⟩
theorem Ft.imp {M} {I J : World → Prop} {w} (h : Ft M I w) (k : ∀ u, I u → J u) : Ft M J w := ⟨h.lt, fun w' a => k _ (h.imm w' a)⟩
theorem Ft.of_sub {I : World → Prop} {w} (h : ∀ u, Sub w u → I u) : Ft (· < w.heap.size) I w :=
  ⟨fun _ hk => hk, fun u a => h u ⟨a.os, a.tape, a.output, a.size, fun k hk => a.block k hk (fun hn => hn hk)⟩⟩
/-- a call's answer: what was read, and new blocks -/
def Mnew (M : Nat → Prop) (w w' : World) : Nat → Prop := fun k => M k ∨ w.heap.size ≤ k ∧ k < w'.heap.size
theorem Ft.ans {M} {I J : World → Prop} {w w'} (h : Ft M I w) (k : ∀ N : Nat → Prop, (∀ k, N k → k < w.heap.size) → Imm N I w → Imm N J w') (s : Sub w w') : Ft (Mnew M w w') J w' := by
  refine ⟨fun k hk => hk.elim (fun h' => Nat.lt_of_lt_of_le (h.lt k h') s.size) (fun h' => h'.2), fun u a => ?_⟩
  refine k (fun k => k < w.heap.size ∧ ¬ M k) (fun k hk => hk.1) (fun u' a' => h.imm u' (a'.mono fun k _ e => e.2)) u (a.mono fun k hk e => ?_)
  refine ⟨Nat.lt_of_not_le fun h' => e (.inr ⟨h', hk⟩), fun h' => e (.inl h')⟩
theorem Ft.new {J : World → Prop} {w w'} (k : ∀ N : Nat → Prop, (∀ k, N k → k < w.heap.size) → Imm N J w') (s : Sub w w') : Ft (Mnew (fun _ => False) w w') J w' := by
  refine ⟨fun k hk => hk.elim False.elim (fun h' => h'.2), fun u a => ?_⟩
  refine k (fun k => k < w.heap.size) (fun k hk => hk) u (a.mono fun k hk e => ?_)
  exact Nat.lt_of_not_le fun h' => e (.inr ⟨h', hk⟩)
theorem neFt {M : Nat → Prop} {w w' : World} {b : Nat} (d : ∀ k, M k → k ≠ b) (hb : b < w.heap.size) : ∀ k, Mnew M w w' k → k ≠ b := fun k hk => hk.elim (d k) (fun h e => by omega)
theorem agLe {N : Nat → Prop} {w0 w : World} {b : Nat} (h : Agr N w0 w) (e : b = w.heap.size) : w0.heap.size ≤ b := by rw [e]; exact h.size
theorem agNew {N : Nat → Prop} {w0 w w' : World} {b : Nat} (h : Agr N w0 w) (a : Agr (· = b) w w') (g : w0.heap.size ≤ b) : Agr N w0 w' :=
  ⟨a.os.trans h.os, a.tape.trans h.tape, a.output.trans h.output, Nat.le_trans h.size a.size, fun k hk hn => (a.block k (Nat.lt_of_lt_of_le hk h.size) (fun (e : k = b) => absurd hk (by omega))).trans (h.block k hk hn)⟩
theorem agNew2 {D : Nat → Prop} {b : Nat} {w w1 w2 : World} (G : Agr D w w1) (ag : Agr (fun k => k = b ∨ D k) w1 w2) (ge : w.heap.size ≤ b) : Agr D w w2 :=
  ⟨ag.os.trans G.os, ag.tape.trans G.tape, ag.output.trans G.output, Nat.le_trans G.size ag.size, fun i hi hn =>
    (ag.block i (Nat.lt_of_lt_of_le hi G.size) (fun e => e.elim (fun e => by omega) hn)).trans (G.block i hi hn)⟩
theorem _root_.Go.XL.Has.ft {w : World} {b e : Nat} {cs : List Value} (h : Has w b cs e) : Ft (· = b) (fun u => Has u b cs e) w := ⟨fun k hk => hk ▸ h.lt, fun u a => h.step a (fun hn => hn rfl)⟩
theorem Ft.and {M M' : Nat → Prop} {I J : World → Prop} {w : World} (h : Ft M I w) (k : Ft M' J w) : Ft (fun x => M x ∨ M' x) (fun u => I u ∧ J u) w :=
  ⟨fun x hx => hx.elim (h.lt x) (k.lt x), fun u a => ⟨h.imm u (a.mono fun x _ e hx => e (.inl hx)), k.imm u (a.mono fun x _ e hx => e (.inr hx))⟩⟩
theorem _root_.Go.XL.Ows.ft {base e sz v rows} {w : World} (h : Ows base w e sz v rows) : Ft (fun k => ob v = some k) (fun u => Ows base u e sz v rows) w :=
  ⟨fun k hk => (h.ge k hk).2, fun u a => h.step a (fun k hk hn => hn hk)⟩
theorem owNw {w : World} {e : TypeId} {sz b : Nat} {v : Value} {rows : List (List Value)} {w' : World} (h : Ows w.heap.size w' e sz v rows) (hb : b < w.heap.size) : ∀ k, ob v = some k → k ≠ b := fun k hk e => by have := (h.ge k hk).1; omega
theorem bneIff {p q : Prop} [Decidable p] [Decidable q] (h : p ↔ q) : (!(decide p == decide q)) = false := by cases hp : decide p <;> cases hq : decide q <;> simp_all
theorem _root_.Go.XL.Ows.low {base base' : Nat} {w : World} {e : TypeId} {sz : Nat} {v : Value} {rows : List (List Value)} (h : Ows base w e sz v rows) (hb : base' ≤ base) : Ows base' w e sz v rows := by
  obtain ⟨⟨h1, h2⟩, h3⟩ := h
  refine ⟨⟨h1, h2.imp id ?_⟩, h3⟩
  rintro ⟨b, cap, ex, e, hb2, rest⟩
  exact ⟨b, cap, ex, e, Nat.le_trans hb hb2, rest⟩
end Go.Proofs.Ytbfjobmebkhblaa
set_option linter.unusedVariables false
set_option linter.unusedSimpArgs false
namespace Go.Proofs.Ytbfjobmebkhblaa
open Go Go.XL
theorem getA_rng {A : Ar} {r : Int} {x : Node} (h : getA A r = some x) : 0 ≤ placeR r ∧ placeR r < A.nodes.length := by
  unfold getA at h
  split at h
  · cases h
  · split at h
    · cases h
    · rename_i y hy
      have := lt_of_get hy
      omega
theorem getA_nok {A : Ar} {r : Int} {x : Node} (h : getA A r = some x) : x ∈ A.nodes := by
  unfold getA at h
  split at h
  · cases h
  · split at h
    · cases h
    · rename_i y hy
      split at h
      · cases h
      · cases h; exact List.mem_of_getElem? hy
theorem getA_get {A : Ar} {r : Int} {x : Node} (h : getA A r = some x) : A.nodes[(placeR r).toNat]? = some x ∧ ¬ x.kind = 0 := by
  unfold getA at h
  split at h
  · cases h
  · split at h
    · cases h
    · rename_i y hy
      split at h
      · cases h
      · rename_i hn; cases h; exact ⟨hy, fun e => hn (.inl e)⟩
def atA (A : Ar) (r : Int) : Int := match getA A r with
  | some _ => placeR r
  | none => -1
theorem atA_no {A : Ar} {r : Int} (h : getA A r = none) : atA A r = -1 := by rw [atA, h]
theorem atA_yes {A : Ar} {r : Int} {x : Node} (h : getA A r = some x) : atA A r = placeR r := by rw [atA, h]
theorem placeR_not {r : Int} (h : ¬ nodeR r) : placeR r = -1 := if_neg h
theorem c_r4At (A : Ar) (na fa : Option Addr) (nc fc : Nat) (r : Int) (hr : U64 r) (w : World) (hA : ArR w na fa A) (hl : A.nodes.length ≤ 1000000000) :
    FC Try.prog 61 [arV na fa nc fc A, .int .u64 r] w (Val (.int .i64 (atA A r)) w) := by
  have hN := hA.nodes
  have hFr := hA.free
  have hu : 0 ≤ r ∧ r < 18446744073709551616 := hr
  have nodeq : r = 0 ∨ gen3 r < 0 → atA A r = -1 := by
    intro h
    refine atA_no (getA_neg (.inl ?_))
    rw [placeR_not]
    · omega
    · intro hn
      have hn2 := (nodeR_iff r).1 hn
      rcases h with h | h
      · exact hn2.1 h
      · have := (gen3_not r hr hn2.1).1 h
        rw [hn.2] at this
        cases this
  refine FC.intro Try.func61 rfl Try.ntmps61 rfl ?_
  have S := Sub.refl w
  refine RC.seq ?_
  refine RC.region rfl ?_
  refine RL.box rfl rfl rfl (fun b_2 w_2 e_2 z_2 hb_2 s_2 => ?_)
  have ge_2 := S.le e_2
  have S := S.trans s_2
  have hb_2 : Has w_2 b_2 ([.slice na A.nodes.length nc, .slice fa A.free.length fc]) _ := hb_2
  refine RL.ev (.assign rfl) rfl rfl ?_
  refine RL.nil (RC.back ?_)
  refine RC.seq ?_
  refine RC.seq ?_
  refine RC.region rfl ?_
  refine RL.ev (.move rfl) rfl rfl ?_
  refine RL.ev (.bin rfl rfl rfl) rfl rfl ?_
  refine RL.ev (.move rfl) rfl rfl ?_
  refine RL.split 8 rfl (fun h1 => ?_) (fun h1 => ?_)
  ·
    have h0 := h1
    refine RL.off rfl rfl ?_
    refine RL.off rfl rfl ?_
    refine RL.off rfl rfl ?_
    refine RL.ev (.pick_t rfl rfl) rfl rfl ?_
    refine RL.nil (RC.back ?_)
    refine RC.cond_t rfl ?_
    refine RC.seq ?_
    refine RC.region rfl ?_
    refine RL.ev (.assign rfl) rfl rfl ?_
    refine RL.nil (RC.back ?_)
    refine RC.done (rs := [.tmp 4]) (vs := [_]) rfl rfl ⟨rfl, trivial⟩ ?_
    -- end 1
    rw [nodeq (.inl h0)]
    exact ⟨rfl, S⟩
  ·
    have h0 := h1
    refine RL.ev (.move rfl) rfl rfl ?_
    refine RL.call rfl ok88 (c_r3Gen r hr w_2) rfl rfl ?_
    rintro _ w2 ⟨rfl, s3⟩
    have S := S.trans s3
    have hb_2 := hb_2.sub s3
    refine RL.ev (.bin rfl rfl rfl) rfl rfl ?_
    refine RL.ev (.pick_f rfl rfl) rfl rfl ?_
    refine RL.nil (RC.back ?_)
    refine RC.cond_dec rfl (fun h4 => ?_) (fun h4 => ?_)
    ·
      have h1 := h4
      refine RC.seq ?_
      refine RC.region rfl ?_
      refine RL.ev (.assign rfl) rfl rfl ?_
      refine RL.nil (RC.back ?_)
      refine RC.done (rs := [.tmp 4]) (vs := [_]) rfl rfl ⟨rfl, trivial⟩ ?_
      -- end 2
      rw [nodeq (.inr h1)]
      exact ⟨rfl, S⟩
    ·
      have hnode : nodeR r := ⟨h0, Bool.of_not_eq_false (mt (gen3_not r hr h0).2 h4)⟩
      have hn2 := (nodeR_iff r).1 hnode
      have hpl : placeR r = r % 65536 - 1 := if_pos hnode
      have hg3 : gen3 r = genR r := (by rw [genR, if_pos hnode, gen3, if_neg (by omega)])
      refine RC.skip (RC.back ?_)
      refine RC.seq ?_
      refine RC.region rfl ?_
      refine RL.ev (.move rfl) rfl rfl ?_
      refine RL.ev (.as (v' := .int .u64 (r % 65536)) (.rem rfl rfl (by decide)) (by rw [tmodE hr.1])) rfl rfl ?_
      refine RL.ev (.as (.conv i36 i3 rfl) (wi64 (y := r % 65536) (by rfl) (by omega))) rfl rfl ?_
      refine RL.ev (.as (.bin rfl rfl rfl) (wi64 (y := placeR r) (by omega) (by omega))) rfl rfl ?_
      refine RL.ev (.assign rfl) rfl rfl ?_
      refine RL.nil (RC.back ?_)
      refine RC.seq ?_
      refine RC.seq ?_
      refine RC.draw rfl mxo (by kernel_rfl) ?_
      refine RQ.ev (.move rfl) rfl rfl ?_
      refine RQ.ev (.field0 fo34_0 rfl) rfl rfl ?_
      refine RQ.ev (.load1 sh31 rfl (hb_2.cell rfl)) rfl rfl ?_
      refine RQ.ev (.len sl31 rfl) rfl rfl ?_
      refine RQ.ev (.bin rfl rfl rfl) rfl rfl ?_
      refine RQ.ev (.move rfl) rfl rfl ?_
      refine RQ.split 22 rfl (fun h5 => ?_) (fun h5 => ?_)
      ·
        have hlen := h5
        refine RQ.off rfl rfl ?_
        refine RQ.off rfl rfl ?_
        refine RQ.off rfl rfl ?_
        refine RQ.off rfl rfl ?_
        refine RQ.off rfl rfl ?_
        refine RQ.off rfl rfl ?_
        refine RQ.off rfl rfl ?_
        refine RQ.ev (.pick_t rfl rfl) rfl rfl ?_
        refine RQ.ev (.move rfl) rfl rfl ?_
        refine RQ.off rfl rfl ?_
        refine RQ.off rfl rfl ?_
        refine RQ.off rfl rfl ?_
        refine RQ.off rfl rfl ?_
        refine RQ.off rfl rfl ?_
        refine RQ.off rfl rfl ?_
        refine RQ.off rfl rfl ?_
        refine RQ.off rfl rfl ?_
        refine RQ.off rfl rfl ?_
        refine RQ.ev (.pick_t rfl rfl) rfl rfl ?_
        refine RQ.nil (fun w6 s7 => RC.back ?_)
        have S := S.trans s7
        have hb_2 := hb_2.sub s7
        refine RC.cond_t rfl ?_
        refine RC.seq ?_
        refine RC.region rfl ?_
        refine RL.ev (.assign rfl) rfl rfl ?_
        refine RL.nil (RC.back ?_)
        refine RC.done (rs := [.tmp 4]) (vs := [_]) rfl rfl ⟨rfl, trivial⟩ ?_
        -- end 3
        rw [atA_no (getA_neg (by omega))]
        exact ⟨rfl, S⟩
      ·
        obtain ⟨x, hx⟩ := getSome (l := A.nodes) (i := (placeR r).toNat) (by omega)
        have hga := getA_at (by omega) hx
        refine RQ.ev (.field0 fo34_0 rfl) rfl rfl ?_
        refine RQ.ev (.load1 sh31 rfl (hb_2.cell rfl)) rfl rfl ?_
        refine RQ.ev (.move rfl) rfl rfl ?_
        refine RQ.ev (.indexS sl31 rfl rfl (by omega) (hN.is (i := 0) (by simp only [List.length_map, List.length_cons, List.length_nil]; omega))) rfl rfl ?_
        refine RQ.ev (.fieldA fo97_0 rfl) rfl rfl ?_
        refine RQ.ev (.load1 sh3 rfl ((hN.sub S).cell (enc := Node.cells) (j := 0) hx rfl)) rfl rfl ?_
        refine RQ.ev (.bin rfl rfl rfl) rfl rfl ?_
        refine RQ.ev (.pick_f rfl rfl) rfl rfl ?_
        refine RQ.ev (.move rfl) rfl rfl ?_
        refine RQ.split 31 rfl (fun h8 => ?_) (fun h8 => ?_)
        ·
          have hk := h8
          refine RQ.off rfl rfl ?_
          refine RQ.off rfl rfl ?_
          refine RQ.off rfl rfl ?_
          refine RQ.off rfl rfl ?_
          refine RQ.off rfl rfl ?_
          refine RQ.off rfl rfl ?_
          refine RQ.off rfl rfl ?_
          refine RQ.off rfl rfl ?_
          refine RQ.off rfl rfl ?_
          refine RQ.ev (.pick_t rfl rfl) rfl rfl ?_
          refine RQ.nil (fun w9 s10 => RC.back ?_)
          have S := S.trans s10
          have hb_2 := hb_2.sub s10
          refine RC.cond_t rfl ?_
          refine RC.seq ?_
          refine RC.region rfl ?_
          refine RL.ev (.assign rfl) rfl rfl ?_
          refine RL.nil (RC.back ?_)
          refine RC.done (rs := [.tmp 4]) (vs := [_]) rfl rfl ⟨rfl, trivial⟩ ?_
          -- end 4
          rw [atA_no (hga.trans (if_pos (.inl hk)))]
          exact ⟨rfl, S⟩
        ·
          have hk := h8
          refine RQ.ev (.field0 fo34_0 rfl) rfl rfl ?_
          refine RQ.ev (.load1 sh31 rfl (hb_2.cell rfl)) rfl rfl ?_
          refine RQ.ev (.move rfl) rfl rfl ?_
          refine RQ.ev (.indexS sl31 rfl rfl (by omega) (hN.is (i := 0) (by simp only [List.length_map, List.length_cons, List.length_nil]; omega))) rfl rfl ?_
          refine RQ.ev (.fieldA fo97_1 rfl) rfl rfl ?_
          refine RQ.ev (.load1 sh3 rfl ((hN.sub S).cell (enc := Node.cells) (j := 1) hx rfl)) rfl rfl ?_
          refine RQ.ev (.move rfl) rfl rfl ?_
          refine RQ.call rfl ok88 (fun w' s' => c_r3Gen r hr w') rfl rfl ?_
          refine RQ.ev (.bin rfl rfl rfl) rfl rfl ?_
          refine RQ.ev (.pick_f rfl rfl) rfl rfl ?_
          refine RQ.nil (fun w11 s12 => RC.back ?_)
          have S := S.trans s12
          have hb_2 := hb_2.sub s12
          refine RC.cond_dec rfl (fun h13 => ?_) (fun h13 => ?_)
          ·
            have hg := h13
            refine RC.seq ?_
            refine RC.region rfl ?_
            refine RL.ev (.assign rfl) rfl rfl ?_
            refine RL.nil (RC.back ?_)
            refine RC.done (rs := [.tmp 4]) (vs := [_]) rfl rfl ⟨rfl, trivial⟩ ?_
            -- end 5
            rw [atA_no (hga.trans (if_pos (.inr (by omega))))]
            exact ⟨rfl, S⟩
          ·
            have hg := h13
            refine RC.skip (RC.back ?_)
            refine RC.seq ?_
            refine RC.region rfl ?_
            refine RL.ev (.move rfl) rfl rfl ?_
            refine RL.ev (.assign rfl) rfl rfl ?_
            refine RL.nil (RC.back ?_)
            refine RC.done (rs := [.tmp 4]) (vs := [_]) rfl rfl ⟨rfl, trivial⟩ ?_
            -- end 6
            rw [atA_yes (hga.trans (if_neg (by rintro (e | e); exact hk e; omega)))]
            exact ⟨rfl, S⟩
theorem add_add (a : Addr) (i j : Nat) : (a.add i).add j = a.add (i + j) := by
  unfold Addr.add
  by_cases hi : i = 0
  · subst hi; simp
  · by_cases hj : j = 0
    · subst hj; simp
    · rw [if_neg hj, if_neg hi, if_neg (by omega), Nat.add_assoc]
theorem atA_form (A : Ar) (r : Int) : (atA A r < 0 → getA A r = none) ∧ (¬ atA A r < 0 → ∃ x, getA A r = some x ∧ atA A r = placeR r) := by
  cases h : getA A r with
  | none => rw [atA_no h]; exact ⟨fun _ => rfl, fun h => absurd h (by omega)⟩
  | some x => rw [atA_yes h]; have := getA_rng h; exact ⟨fun h => absurd h (by omega), fun _ => ⟨x, rfl, rfl⟩⟩
theorem getV_form2 (A : Ar) (r : Int) : ∃ (y : Node) (e : Int), getV A r = .tuple #[y.val, .int .i64 e] ∧ (∀ x, getA A r = some x → y = x ∧ e = 0) ∧ (getA A r = none → y = bareN 0 ∧ e = 4) := by
  cases h : getA A r with
  | none => exact ⟨bareN 0, 4, getV_no h, fun x h => (by cases h), fun _ => ⟨rfl, rfl⟩⟩
  | some x => exact ⟨x, 0, getV_yes h, fun y h => (by cases h; exact ⟨rfl, rfl⟩), fun h => (by cases h)⟩
theorem getA_same {A B : Ar} {r : Int} (h : A.nodes[(placeR r).toNat]? = B.nodes[(placeR r).toNat]?) : getA A r = getA B r := by unfold getA; rw [h]
end Go.Proofs.Ytbfjobmebkhblaa
set_option linter.unusedVariables false
set_option linter.unusedSimpArgs false
namespace Go.Proofs.Ytbfjobmebkhblaa
open Go Go.XL
def u64 (x : BitVec 64) : Value := .int .u64 (x.toNat : Int)
theorem u64_shr (x : BitVec 64) (k : Nat) (hk : k ≤ 64) : Value.int .u64 ((x.toNat : Int).fdiv (2 ^ min ((k : Int).toNat) IntKind.u64.bits)) = u64 (x >>> k) := by
  unfold u64
  congr 1
  rw [show min ((k : Int).toNat) IntKind.u64.bits = k by simp [IntKind.bits]; omega]
  have h2 : ((2 : Int) ^ k) = ((2 ^ k : Nat) : Int) := by rw [Int.natCast_pow]; rfl
  rw [BitVec.toNat_ushiftRight, Nat.shiftRight_eq_div_pow, Int.natCast_ediv, h2, Int.fdiv_eq_ediv_of_nonneg _ (Int.natCast_nonneg _)]
theorem ofInt_toNat (z : BitVec 64) : BitVec.ofInt 64 (z.toNat : Int) = z := by rw [BitVec.ofInt_natCast]; simp
theorem toNat_lt (z : BitVec 64) : z.toNat < 18446744073709551616 := z.isLt
theorem u64_xor (x y : BitVec 64) : Value.int .u64 (IntKind.u64.wrap ((BitVec.ofInt 64 (x.toNat : Int) ^^^ BitVec.ofInt 64 (y.toNat : Int)).toNat : Int)) = u64 (x ^^^ y) := by
  unfold u64
  rw [ofInt_toNat x, ofInt_toNat y, wrap_u64 ⟨Int.natCast_nonneg _, by have := toNat_lt (x ^^^ y); omega⟩]
theorem u64_of (x : Int) : Value.int .u64 (IntKind.u64.wrap x) = u64 (BitVec.ofInt 64 x) := by
  unfold u64
  congr 1
  rw [IntKind.wrap_u64, BitVec.toNat_ofInt]
  omega
theorem u64_low20 (x : BitVec 64) : Value.int .u64 (IntKind.u64.wrap ((BitVec.ofInt 64 (x.toNat : Int) &&& BitVec.ofInt 64 1048575).toNat : Int)) = .int .u64 ((x.toNat % 1048576 : Nat) : Int) := by
  have h2 : (x &&& BitVec.ofInt 64 1048575).toNat = x.toNat % 1048576 := by
    show (x &&& 1048575#64).toNat = _
    rw [BitVec.toNat_and]
    exact Nat.and_two_pow_sub_one_eq_mod x.toNat 20
  have h3 : x.toNat % 1048576 < 1048576 := Nat.mod_lt _ (by decide)
  rw [ofInt_toNat x, h2, wrap_u64 ⟨Int.natCast_nonneg _, by omega⟩]
theorem u64_mul (x : BitVec 64) (c : Nat) : Value.int .u64 (IntKind.u64.wrap ((x.toNat : Int) * (c : Int))) = u64 (x * BitVec.ofNat 64 c) := by
  rw [u64_of]
  congr 1
  rw [← Int.natCast_mul, BitVec.ofInt_natCast]
  apply BitVec.eq_of_toNat_eq
  simp [BitVec.toNat_mul]
theorem u64_add (x : BitVec 64) (c : Nat) : Value.int .u64 (IntKind.u64.wrap ((x.toNat : Int) + (c : Int))) = u64 (x + BitVec.ofNat 64 c) := by
  rw [u64_of]
  congr 1
  rw [← Int.natCast_add, BitVec.ofInt_natCast]
  apply BitVec.eq_of_toNat_eq
  simp [BitVec.toNat_add]

def mixOf (x : BitVec 64) : BitVec 64 :=
  let a := (x ^^^ (x >>> 30)) * 13787848793156543929#64
  let b := (a ^^^ (a >>> 27)) * 10723151780598845931#64
  (b ^^^ (b >>> 31)) * 1#64

set_option maxRecDepth 4000 in
theorem c_mixOf (x : BitVec 64) (w : World) : FC Try.prog 97 [u64 x] w (Val (u64 (mixOf x)) w) := by
  refine FC.intro Try.func97 rfl Try.ntmps97 rfl ?_
  have S := Sub.refl w
  refine RC.seq ?_
  refine RC.region rfl ?_
  refine RL.ev (.assign rfl) rfl rfl ?_
  refine RL.nil (RC.back ?_)
  refine RC.seq ?_
  refine RC.seq ?_
  refine RC.region rfl ?_
  refine RL.ev (.as (v' := .agg #[.int .i64 30, .int .u64 13787848793156543929]) (.buildS ze147 pl147 rfl rfl) (by rfl)) rfl rfl ?_
  refine RL.ev (.as (v' := .agg #[.int .i64 27, .int .u64 10723151780598845931]) (.buildS ze147 pl147 rfl rfl) (by rfl)) rfl rfl ?_
  refine RL.ev (.as (v' := .agg #[.int .i64 31, .int .u64 1]) (.buildS ze147 pl147 rfl rfl) (by rfl)) rfl rfl ?_
  refine RL.ev (.as (v' := .agg #[.int .i64 30, .int .u64 13787848793156543929, .int .i64 27, .int .u64 10723151780598845931, .int .i64 31, .int .u64 1]) (.buildA ze148 ar148 rfl rfl) (by rfl)) rfl rfl ?_
  refine RL.ev (.move rfl) rfl rfl ?_
  refine RL.nil (RC.back ?_)
  refine RC.block ?_
  refine RC.unroll 5 ?_
  refine RC.seq ?_
  refine RC.region rfl ?_
  refine RL.ev (.bin rfl rfl rfl) rfl rfl ?_
  refine RL.nil (RC.back ?_)
  refine RC.seq ?_
  refine RC.cond_t rfl ?_
  refine RC.skip (RC.back ?_)
  refine RC.seq ?_
  refine RC.block ?_
  refine RC.seq ?_
  refine RC.region rfl ?_
  refine RL.ev (.as (v' := .agg #[.int .i64 30, .int .u64 13787848793156543929]) (.indexN ar148 sh147 rfl rfl (by decide)) (by rfl)) rfl rfl ?_
  refine RL.alloc ze147 rfl rfl (fun b_4 w_4 e_4 z_4 hb_4 s_4 => ?_)
  have ge_4 := S.le e_4
  have S := S.trans s_4
  refine RL.store sh147 rfl rfl rfl hb_4 (by exact Nat.le_of_ble_eq_true rfl) (by rfl) rfl (fun w1 z1 hb_4 a1 => ?_)
  have S := S.upd a1 ge_4
  refine RL.nil (RC.back ?_)
  refine RC.draw rfl mxo (by kernel_rfl) ?_
  refine RQ.ev (.move rfl) rfl rfl ?_
  refine RQ.ev (.move rfl) rfl rfl ?_
  refine RQ.ev (.field0 fo147_0 rfl) rfl rfl ?_
  refine RQ.ev (.load1 sh3 rfl (hb_4.cell rfl)) rfl rfl ?_
  refine RQ.ev (.as (v' := _) (.shr rfl rfl (by decide)) (by exact u64_shr _ 30 (by decide))) rfl rfl ?_
  refine RQ.ev (.as (v' := _) (.bin rfl rfl rfl) (by exact u64_xor _ _)) rfl rfl ?_
  refine RQ.ev (.field0 fo147_1 rfl) rfl rfl ?_
  refine RQ.ev (.load1 sh35 rfl (hb_4.cell rfl)) rfl rfl ?_
  refine RQ.ev (.as (v' := _) (.bin rfl rfl rfl) (by exact u64_mul _ 13787848793156543929)) rfl rfl ?_
  refine RQ.ev (.assign rfl) rfl rfl ?_
  refine RQ.nil (fun w2 s3 => RC.back ?_)
  have S := S.trans s3
  have hb_4 := hb_4.sub s3
  refine RC.region rfl ?_
  refine RL.ev (.bin rfl rfl rfl) rfl rfl ?_
  refine RL.ev (.move rfl) rfl rfl ?_
  refine RL.nil (RC.again ?_)
  refine RC.seq ?_
  refine RC.region rfl ?_
  refine RL.ev (.bin rfl rfl rfl) rfl rfl ?_
  refine RL.nil (RC.back ?_)
  refine RC.seq ?_
  refine RC.cond_t rfl ?_
  refine RC.skip (RC.back ?_)
  refine RC.seq ?_
  refine RC.block ?_
  refine RC.seq ?_
  refine RC.region rfl ?_
  refine RL.ev (.as (v' := .agg #[.int .i64 27, .int .u64 10723151780598845931]) (.indexN ar148 sh147 rfl rfl (by decide)) (by rfl)) rfl rfl ?_
  refine RL.alloc ze147 rfl rfl (fun b_4_2 w_4_2 e_4_2 z_4_2 hb_4_2 s_4_2 => ?_)
  have ge_4_2 := S.le e_4_2
  have n_4__4_2 := hb_4.ne e_4_2
  have S := S.trans s_4_2
  have hb_4 := hb_4.sub s_4_2
  refine RL.store sh147 rfl rfl rfl hb_4_2 (by exact Nat.le_of_ble_eq_true rfl) (by rfl) rfl (fun w4 z4 hb_4_2 a4 => ?_)
  have S := S.upd a4 ge_4_2
  have hb_4 := hb_4.upd a4 n_4__4_2
  refine RL.nil (RC.back ?_)
  refine RC.draw rfl mxo (by kernel_rfl) ?_
  refine RQ.ev (.move rfl) rfl rfl ?_
  refine RQ.ev (.move rfl) rfl rfl ?_
  refine RQ.ev (.field0 fo147_0 rfl) rfl rfl ?_
  refine RQ.ev (.load1 sh3 rfl (hb_4_2.cell rfl)) rfl rfl ?_
  refine RQ.ev (.as (v' := _) (.shr rfl rfl (by decide)) (by exact u64_shr _ 27 (by decide))) rfl rfl ?_
  refine RQ.ev (.as (v' := _) (.bin rfl rfl rfl) (by exact u64_xor _ _)) rfl rfl ?_
  refine RQ.ev (.field0 fo147_1 rfl) rfl rfl ?_
  refine RQ.ev (.load1 sh35 rfl (hb_4_2.cell rfl)) rfl rfl ?_
  refine RQ.ev (.as (v' := _) (.bin rfl rfl rfl) (by exact u64_mul _ 10723151780598845931)) rfl rfl ?_
  refine RQ.ev (.assign rfl) rfl rfl ?_
  refine RQ.nil (fun w5 s6 => RC.back ?_)
  have S := S.trans s6
  have hb_4 := hb_4.sub s6
  have hb_4_2 := hb_4_2.sub s6
  refine RC.region rfl ?_
  refine RL.ev (.bin rfl rfl rfl) rfl rfl ?_
  refine RL.ev (.move rfl) rfl rfl ?_
  refine RL.nil (RC.again ?_)
  refine RC.seq ?_
  refine RC.region rfl ?_
  refine RL.ev (.bin rfl rfl rfl) rfl rfl ?_
  refine RL.nil (RC.back ?_)
  refine RC.seq ?_
  refine RC.cond_t rfl ?_
  refine RC.skip (RC.back ?_)
  refine RC.seq ?_
  refine RC.block ?_
  refine RC.seq ?_
  refine RC.region rfl ?_
  refine RL.ev (.as (v' := .agg #[.int .i64 31, .int .u64 1]) (.indexN ar148 sh147 rfl rfl (by decide)) (by rfl)) rfl rfl ?_
  refine RL.alloc ze147 rfl rfl (fun b_4_3 w_4_3 e_4_3 z_4_3 hb_4_3 s_4_3 => ?_)
  have ge_4_3 := S.le e_4_3
  have n_4__4_3 := hb_4.ne e_4_3
  have n_4_2__4_3 := hb_4_2.ne e_4_3
  have S := S.trans s_4_3
  have hb_4 := hb_4.sub s_4_3
  have hb_4_2 := hb_4_2.sub s_4_3
  refine RL.store sh147 rfl rfl rfl hb_4_3 (by exact Nat.le_of_ble_eq_true rfl) (by rfl) rfl (fun w7 z7 hb_4_3 a7 => ?_)
  have S := S.upd a7 ge_4_3
  have hb_4 := hb_4.upd a7 n_4__4_3
  have hb_4_2 := hb_4_2.upd a7 n_4_2__4_3
  refine RL.nil (RC.back ?_)
  refine RC.draw rfl mxo (by kernel_rfl) ?_
  refine RQ.ev (.move rfl) rfl rfl ?_
  refine RQ.ev (.move rfl) rfl rfl ?_
  refine RQ.ev (.field0 fo147_0 rfl) rfl rfl ?_
  refine RQ.ev (.load1 sh3 rfl (hb_4_3.cell rfl)) rfl rfl ?_
  refine RQ.ev (.as (v' := _) (.shr rfl rfl (by decide)) (by exact u64_shr _ 31 (by decide))) rfl rfl ?_
  refine RQ.ev (.as (v' := _) (.bin rfl rfl rfl) (by exact u64_xor _ _)) rfl rfl ?_
  refine RQ.ev (.field0 fo147_1 rfl) rfl rfl ?_
  refine RQ.ev (.load1 sh35 rfl (hb_4_3.cell rfl)) rfl rfl ?_
  refine RQ.ev (.as (v' := _) (.bin rfl rfl rfl) (by exact u64_mul _ 1)) rfl rfl ?_
  refine RQ.ev (.assign rfl) rfl rfl ?_
  refine RQ.nil (fun w8 s9 => RC.back ?_)
  have S := S.trans s9
  have hb_4 := hb_4.sub s9
  have hb_4_2 := hb_4_2.sub s9
  have hb_4_3 := hb_4_3.sub s9
  refine RC.region rfl ?_
  refine RL.ev (.bin rfl rfl rfl) rfl rfl ?_
  refine RL.ev (.move rfl) rfl rfl ?_
  refine RL.nil (RC.again ?_)
  refine RC.seq ?_
  refine RC.region rfl ?_
  refine RL.ev (.bin rfl rfl rfl) rfl rfl ?_
  refine RL.nil (RC.back ?_)
  refine RC.seq ?_
  refine RC.cond_f rfl ?_
  refine RC.exit rfl (RC.back ?_)
  refine RC.seq ?_
  refine RC.region rfl ?_
  refine RL.ev (.move rfl) rfl rfl ?_
  refine RL.ev (.assign rfl) rfl rfl ?_
  refine RL.nil (RC.back ?_)
  refine RC.done (rs := [.tmp 2]) (vs := [_]) rfl rfl ⟨rfl, trivial⟩ ?_
  -- end 1
  exact ⟨rfl, S⟩

def rankOf (k : Int) : BitVec 64 := mixOf (BitVec.ofInt 64 k + 7#64)
def hashOf (k : Int) : Nat := (rankOf k).toNat % 1048576
theorem hashOf_lt (k : Int) : hashOf k < 1048576 := Nat.mod_lt _ (by decide)
def beforeK (a b : Int) : Bool := decide ((rankOf a).toNat < (rankOf b).toNat ∨ (rankOf a).toNat = (rankOf b).toNat ∧ a < b)

theorem c_rank (k : Int) (w : World) : FC Try.prog 71 [.int .i64 k] w (Val (u64 (rankOf k)) w) := by
  refine FC.intro Try.func71 rfl Try.ntmps71 rfl ?_
  have S := Sub.refl w
  refine RC.seq ?_
  refine RC.region rfl ?_
  refine RL.ev (.assign rfl) rfl rfl ?_
  refine RL.nil (RC.back ?_)
  refine RC.seq ?_
  refine RC.region rfl ?_
  refine RL.ev (.move rfl) rfl rfl ?_
  refine RL.ev (.as (v' := _) (.conv i2 i35 rfl) (by exact u64_of _)) rfl rfl ?_
  refine RL.ev (.as (v' := _) (.bin rfl rfl rfl) (by exact u64_add _ 7)) rfl rfl ?_
  refine RL.call rfl ok97 (c_mixOf _ w) rfl rfl ?_
  rintro _ w1 ⟨rfl, s2⟩
  have S := S.trans s2
  refine RL.ev (.assign rfl) rfl rfl ?_
  refine RL.nil (RC.back ?_)
  refine RC.done (rs := [.tmp 2]) (vs := [_]) rfl rfl ⟨rfl, trivial⟩ ?_
  -- end 1
  exact ⟨rfl, S⟩
theorem c_hash (k : Int) (w : World) : FC Try.prog 43 [.int .i64 k] w (Val (.int .i64 (hashOf k)) w) := by
  refine FC.intro Try.func43 rfl Try.ntmps43 rfl ?_
  have S := Sub.refl w
  have hlt := hashOf_lt k
  refine RC.seq ?_
  refine RC.region rfl ?_
  refine RL.ev (.assign rfl) rfl rfl ?_
  refine RL.nil (RC.back ?_)
  refine RC.seq ?_
  refine RC.region rfl ?_
  refine RL.ev (.move rfl) rfl rfl ?_
  refine RL.call rfl ok71 (c_rank _ w) rfl rfl ?_
  rintro _ w1 ⟨rfl, s2⟩
  have S := S.trans s2
  refine RL.ev (.as (v' := .int .u64 (hashOf k : Int)) (.bin rfl rfl rfl) (by exact u64_low20 _)) rfl rfl ?_
  refine RL.ev (.as (.conv i35 i3 rfl) (wi64 (y := (hashOf k : Int)) (by rfl) (by omega))) rfl rfl ?_
  refine RL.ev (.assign rfl) rfl rfl ?_
  refine RL.nil (RC.back ?_)
  refine RC.done (rs := [.tmp 2]) (vs := [_]) rfl rfl ⟨rfl, trivial⟩ ?_
  -- end 1
  exact ⟨rfl, S⟩
end Go.Proofs.Ytbfjobmebkhblaa
set_option linter.unusedVariables false
set_option linter.unusedSimpArgs false
namespace Go.Proofs.Ytbfjobmebkhblaa
open Go Go.XL
structure It where
  k : Int
  v : Int
  deriving DecidableEq
def It.cells (x : It) : List Value := [.int .i64 x.k, .int .i64 x.v]
def It.val (x : It) : Value := .agg x.cells.toArray
def It.ok (x : It) : Prop := I64 x.k ∧ I64 x.v
def it0 : It := ⟨0, 0⟩
/-- keys that rise -/
def Srt (l : List It) : Prop := l.Pairwise (fun x y => x.k < y.k)
theorem Srt.split {L R : List It} {it : It} (h : Srt (L ++ it :: R)) : Srt L ∧ Srt R ∧ (∀ y ∈ L, y.k < it.k) ∧ (∀ y ∈ R, it.k < y.k) := by
  unfold Srt at *
  rw [List.pairwise_append, List.pairwise_cons] at h
  exact ⟨h.1, h.2.1.2, fun y hy => h.2.2 y hy it (by simp), h.2.1.1⟩
theorem Srt.join {L R : List It} {it : It} (h1 : Srt L) (h2 : Srt R) (h3 : ∀ y ∈ L, y.k < it.k) (h4 : ∀ y ∈ R, it.k < y.k) : Srt (L ++ it :: R) := by
  unfold Srt at *
  rw [List.pairwise_append, List.pairwise_cons]
  refine ⟨h1, ⟨h4, h2⟩, fun x hx y hy => ?_⟩
  rcases List.mem_cons.1 hy with e | hy
  · rw [e]; exact h3 x hx
  · have := h3 x hx; have := h4 y hy; omega

def kAt (l : List It) (i : Nat) : Int := (l.getD i it0).k
def topAt (l : List It) : Nat → Int
  | 0 => -1
  | i + 1 => if topAt l i < 0 ∨ beforeK (kAt l i) (kAt l (topAt l i).toNat) = true then i else topAt l i
def topL (l : List It) : Int := topAt l l.length
theorem split_at {α : Type} {l : List α} {i : Nat} {x : α} (h : l[i]? = some x) : l = l.take i ++ x :: l.drop (i + 1) := by
  have h1 := lt_of_get h
  conv => lhs; rw [← List.take_append_drop i l]
  rw [List.drop_eq_getElem_cons h1, getElem_of h]
def tNode (g k v s a b : Int) : Node := ⟨1, g, k, v, s, a, b, 0, 0, 0, 0, 0, 0, 0, 0, 0⟩
inductive IsT (A : Ar) : Int → List It → Prop
  | nil : IsT A 0 []
  | node {r g a b : Int} {it : It} {L R : List It} : getA A r = some (tNode g it.k it.v ((L.length : Int) + R.length + 1) a b) → IsT A a L → IsT A b R → (∀ y ∈ L ++ R, beforeK it.k y.k = true) → Srt (L ++ it :: R) → IsT A r (L ++ it :: R)
theorem getA_0 (A : Ar) : getA A 0 = none := getA_neg (.inl (by decide))
theorem IsT.srt {A : Ar} {r : Int} {l : List It} (h : IsT A r l) : Srt l := by
  cases h with
  | nil => exact List.Pairwise.nil
  | node _ _ _ _ h => exact h
theorem IsT.zero {A : Ar} {l : List It} (h : IsT A 0 l) : l = [] := by
  cases h with
  | nil => rfl
  | node h1 => rw [getA_0] at h1; cases h1
theorem IsT.ne {A : Ar} {r : Int} {l : List It} (h : IsT A r l) (hr : ¬ r = 0) : ∃ g a b it L R, l = L ++ it :: R ∧ getA A r = some (tNode g it.k it.v ((L.length : Int) + R.length + 1) a b) ∧ IsT A a L ∧ IsT A b R ∧ (∀ y ∈ L ++ R, beforeK it.k y.k = true) ∧ Srt (L ++ it :: R) := by
  cases h with
  | nil => exact absurd rfl hr
  | node h1 h2 h3 h4 h5 => exact ⟨_, _, _, _, _, _, rfl, h1, h2, h3, h4, h5⟩
/-- how many keys a reference has, as its node tells -/
theorem IsT.size {A : Ar} {r : Int} {l : List It} (h : IsT A r l) : (getA A r = none → l.length = 0) ∧ ∀ x, getA A r = some x → x.s = l.length := by
  cases h with
  | nil => exact ⟨fun _ => rfl, fun x h => (by rw [getA_0] at h; cases h)⟩
  | node h1 => exact ⟨fun h => (by rw [h1] at h; cases h), fun x h => (by rw [h1] at h; cases h; simp [tNode]; omega)⟩

theorem Srt.take {l : List It} (h : Srt l) (k : Nat) : Srt (l.take k) := List.Pairwise.sublist (List.take_sublist _ _) h
theorem Srt.drop {l : List It} (h : Srt l) (k : Nat) : Srt (l.drop k) := List.Pairwise.sublist (List.drop_sublist _ _) h
end Go.Proofs.Ytbfjobmebkhblaa
set_option linter.unusedVariables false
set_option linter.unusedSimpArgs false
namespace Go.Proofs.Ytbfjobmebkhblaa
open Go Go.XL
structure Bnd where
  low : Int
  high : Int
  hasLow : Bool
  hasHigh : Bool
  above : Int
  hasAbove : Bool
def Bnd.cells (b : Bnd) : List Value := [.int .i64 b.low, .int .i64 b.high, .bool b.hasLow, .bool b.hasHigh, .int .i64 b.above, .bool b.hasAbove]
def Bnd.bad (b : Bnd) (n : Int) : Prop := b.hasLow = true ∧ n ≤ b.low ∨ b.hasHigh = true ∧ b.high ≤ n ∨ b.hasAbove = true ∧ beforeK b.above n = false
instance (b : Bnd) (n : Int) : Decidable (b.bad n) := inferInstanceAs (Decidable (_ ∨ _))
def Bnd.below (b : Bnd) (n : Int) : Bnd := { b with above := n, hasAbove := true }
def Bnd.lo (b : Bnd) (n : Int) : Bnd := { b with above := n, hasAbove := true, high := n, hasHigh := true }
def Bnd.hi (b : Bnd) (n : Int) : Bnd := { b with above := n, hasAbove := true, low := n, hasLow := true }
/-- within bounds -/
def Bnd.holds (b : Bnd) (n : Int) : Prop := (b.hasLow = true → b.low < n) ∧ (b.hasHigh = true → n < b.high) ∧ (b.hasAbove = true → beforeK b.above n = true)
end Go.Proofs.Ytbfjobmebkhblaa
set_option linter.unusedVariables false
set_option linter.unusedSimpArgs false
namespace Go.Proofs.Ytbfjobmebkhblaa
open Go Go.XL
theorem u64_half (x : BitVec 64) (i : Nat) : Value.int .u64 (IntKind.u64.wrap (((x >>> i).toNat : Int).tdiv 2)) = u64 (x >>> (i + 1)) := by
  unfold u64
  have h : ((x >>> i).toNat : Int).tdiv 2 = ((x >>> (i + 1)).toNat : Int) := by
    rw [Int.tdiv_eq_ediv_of_nonneg (Int.natCast_nonneg _), BitVec.toNat_ushiftRight, BitVec.toNat_ushiftRight, Nat.shiftRight_succ]
    omega
  rw [h, wrap_u64 ⟨Int.natCast_nonneg _, by have := toNat_lt (x >>> (i + 1)); omega⟩]

theorem c_move (x : BitVec 64) (k : Nat) (hk : k ≤ 64) (w : World) : FC Try.prog 98 [u64 x, .int .i64 k] w (Val (u64 (x >>> k)) w) := by
  refine FC.intro Try.func98 rfl Try.ntmps98 rfl ?_
  have S := Sub.refl w
  refine RC.seq ?_
  refine RC.region rfl ?_
  refine RL.ev (.assign rfl) rfl rfl ?_
  refine RL.nil (RC.back ?_)
  refine RC.seq ?_
  refine RC.seq ?_
  refine RC.region rfl ?_
  refine RL.ev (.assign rfl) rfl rfl ?_
  refine RL.nil (RC.back ?_)
  refine RC.block ?_
  refine RC.loop (α := Nat) (fun i => [(0, u64 (x >>> i)), (1, .int .i64 (k : Int)), (5, .int .i64 (i : Int))]) (fun i w1 => i ≤ k ∧ Sub w w1) (fun i => k - i) 0 (keep_of (by repeat (first | exact trivial | refine And.intro rfl ?_))) (⟨Nat.zero_le _, S⟩) (fun i w1 hJ => ?_)
  obtain ⟨hi, S⟩ := hJ
  refine RC.seq ?_
  refine RC.seq ?_
  refine RC.region rfl ?_
  refine RL.ev (.move rfl) rfl rfl ?_
  refine RL.ev (.move rfl) rfl rfl ?_
  refine RL.ev (.bin rfl rfl rfl) rfl rfl ?_
  refine RL.nil (RC.back ?_)
  refine RC.cond_dec rfl (fun h2 => ?_) (fun h2 => ?_)
  ·
    refine RC.skip (RC.back ?_)
    refine RC.seq ?_
    refine RC.block ?_
    refine RC.region rfl ?_
    refine RL.ev (.move rfl) rfl rfl ?_
    refine RL.ev (.as (v' := u64 (x >>> (i + 1))) (.quo rfl rfl (by decide)) (by exact u64_half _ _)) rfl rfl ?_
    refine RL.ev (.assign rfl) rfl rfl ?_
    refine RL.nil (RC.back ?_)
    refine RC.region rfl ?_
    refine RL.ev (.move rfl) rfl rfl ?_
    refine RL.ev (.as (.bin rfl rfl rfl) (wi64 (y := ((i + 1 : Nat) : Int)) (by omega) (by omega))) rfl rfl ?_
    refine RL.ev (.assign rfl) rfl rfl ?_
    exact RL.nil (fun a ka => ⟨i + 1, ⟨by omega, S⟩, by omega, ka.keep (keep_of (by repeat (first | exact trivial | refine And.intro rfl ?_)))⟩)
  ·
    obtain rfl : i = k := by omega
    refine RC.exit rfl (RC.back ?_)
    refine RC.seq ?_
    refine RC.region rfl ?_
    refine RL.ev (.move rfl) rfl rfl ?_
    refine RL.ev (.assign rfl) rfl rfl ?_
    refine RL.nil (RC.back ?_)
    refine RC.done (rs := [.tmp 4]) (vs := [_]) rfl rfl ⟨rfl, trivial⟩ ?_
    -- end 1
    exact ⟨rfl, S⟩

theorem mixOf_eq (x : BitVec 64) : mixOf x = (let a := (x ^^^ (x >>> 30)) * 13787848793156543929#64; let b := (a ^^^ (a >>> 27)) * 10723151780598845931#64; b ^^^ (b >>> 31)) := by
  simp only [mixOf, BitVec.mul_one]
theorem c_refOf (x : BitVec 64) (w : World) : FC Try.prog 72 [u64 x] w (Val (u64 (mixOf x)) w) := by
  rw [mixOf_eq]
  refine FC.intro Try.func72 rfl Try.ntmps72 rfl ?_
  have S := Sub.refl w
  refine RC.seq ?_
  refine RC.region rfl ?_
  refine RL.ev (.assign rfl) rfl rfl ?_
  refine RL.nil (RC.back ?_)
  refine RC.seq ?_
  refine RC.region rfl ?_
  refine RL.ev (.move rfl) rfl rfl ?_
  refine RL.ev (.move rfl) rfl rfl ?_
  refine RL.call rfl ok98 (c_move _ 30 (by decide) w) rfl rfl ?_
  rintro _ w1 ⟨rfl, s2⟩
  have S := S.trans s2
  refine RL.ev (.as (v' := _) (.bin rfl rfl rfl) (by exact u64_xor _ _)) rfl rfl ?_
  refine RL.ev (.assign rfl) rfl rfl ?_
  refine RL.nil (RC.back ?_)
  refine RC.seq ?_
  refine RC.region rfl ?_
  refine RL.ev (.move rfl) rfl rfl ?_
  refine RL.ev (.as (v' := _) (.bin rfl rfl rfl) (by exact u64_mul _ 13787848793156543929)) rfl rfl ?_
  refine RL.ev (.assign rfl) rfl rfl ?_
  refine RL.nil (RC.back ?_)
  refine RC.seq ?_
  refine RC.region rfl ?_
  refine RL.ev (.move rfl) rfl rfl ?_
  refine RL.ev (.move rfl) rfl rfl ?_
  refine RL.call rfl ok98 (c_move _ 27 (by decide) w1) rfl rfl ?_
  rintro _ w3 ⟨rfl, s4⟩
  have S := S.trans s4
  refine RL.ev (.as (v' := _) (.bin rfl rfl rfl) (by exact u64_xor _ _)) rfl rfl ?_
  refine RL.ev (.assign rfl) rfl rfl ?_
  refine RL.nil (RC.back ?_)
  refine RC.seq ?_
  refine RC.region rfl ?_
  refine RL.ev (.move rfl) rfl rfl ?_
  refine RL.ev (.as (v' := _) (.bin rfl rfl rfl) (by exact u64_mul _ 10723151780598845931)) rfl rfl ?_
  refine RL.ev (.assign rfl) rfl rfl ?_
  refine RL.nil (RC.back ?_)
  refine RC.seq ?_
  refine RC.region rfl ?_
  refine RL.ev (.move rfl) rfl rfl ?_
  refine RL.ev (.move rfl) rfl rfl ?_
  refine RL.call rfl ok98 (c_move _ 31 (by decide) w3) rfl rfl ?_
  rintro _ w5 ⟨rfl, s6⟩
  have S := S.trans s6
  refine RL.ev (.as (v' := _) (.bin rfl rfl rfl) (by exact u64_xor _ _)) rfl rfl ?_
  refine RL.ev (.assign rfl) rfl rfl ?_
  refine RL.nil (RC.back ?_)
  refine RC.done (rs := [.tmp 2]) (vs := [_]) rfl rfl ⟨rfl, trivial⟩ ?_
  -- end 1
  exact ⟨rfl, S⟩
theorem c_refRank (k : Int) (w : World) : FC Try.prog 44 [.int .i64 k] w (Val (u64 (rankOf k)) w) := by
  refine FC.intro Try.func44 rfl Try.ntmps44 rfl ?_
  have S := Sub.refl w
  refine RC.seq ?_
  refine RC.region rfl ?_
  refine RL.ev (.assign rfl) rfl rfl ?_
  refine RL.nil (RC.back ?_)
  refine RC.seq ?_
  refine RC.region rfl ?_
  refine RL.ev (.move rfl) rfl rfl ?_
  refine RL.ev (.as (v' := _) (.conv i2 i35 rfl) (by exact u64_of _)) rfl rfl ?_
  refine RL.ev (.as (v' := _) (.bin rfl rfl rfl) (by exact u64_add _ 7)) rfl rfl ?_
  refine RL.call rfl ok72 (c_refOf _ w) rfl rfl ?_
  rintro _ w1 ⟨rfl, s2⟩
  have S := S.trans s2
  refine RL.ev (.assign rfl) rfl rfl ?_
  refine RL.nil (RC.back ?_)
  refine RC.done (rs := [.tmp 2]) (vs := [_]) rfl rfl ⟨rfl, trivial⟩ ?_
  -- end 1
  exact ⟨rfl, S⟩
end Go.Proofs.Ytbfjobmebkhblaa
set_option linter.unusedVariables false
set_option linter.unusedSimpArgs false
namespace Go.Proofs.Ytbfjobmebkhblaa
open Go Go.XL
/-- all nodes that were there are as they were -/
structure Ext (A A' : Ar) : Prop where
  len : A'.nodes.length = A.nodes.length
  keep : ∀ (i : Nat) x, A.nodes[i]? = some x → ¬ x.kind = 0 → A'.nodes[i]? = some x
theorem Ext.refl (A : Ar) : Ext A A := ⟨rfl, fun _ _ h _ => h⟩
theorem Ext.trans {A B C : Ar} (h : Ext A B) (k : Ext B C) : Ext A C := ⟨k.len.trans h.len, fun i x hx hk => k.keep i x (h.keep i x hx hk) hk⟩
theorem Ext.get {A A' : Ar} {r : Int} {x : Node} (h : Ext A A') (hg : getA A r = some x) : getA A' r = some x := by
  have h1 := getA_get hg
  rw [← getA_same (A := A) (B := A') (by rw [h1.1, h.keep _ _ h1.1 h1.2])]
  exact hg
theorem make_ext {A : Ar} {x : Node} (hA : AOk A) (h : 0 < A.free.length) : Ext A (makeA A x) := by
  refine ⟨by simp [makeA], fun i y hy hk => ?_⟩
  have hin := lastAt_in hA h
  simp only [makeA]
  rw [List.getElem?_set_ne, hy]
  intro e
  have := (hA.kind i y hy).2 (by
    have h2 := List.mem_of_getElem? (lastAt_get h)
    rwa [show lastAt A = (i : Int) by omega] at h2)
  exact hk this

/-- an arena, and what is wrong -/
abbrev St := Ar × Int
/-- s' comes from s; at most n nodes were made -/
structure Gs (n : Nat) (s s' : St) : Prop where
  ext : Ext s.1 s'.1
  ok : AOk s'.1
  free : s.1.free.length ≤ s'.1.free.length + n
  stay : ¬ s.2 = 0 → s'.2 = s.2
  full : s.2 = 0 → ¬ s'.2 = 0 → s'.2 = 2 ∧ s.1.free.length < n
theorem Gs.back {n : Nat} {s s' : St} (h : Gs n s s') (h0 : s'.2 = 0) : s.2 = 0 := Classical.byContradiction fun e => e (by rw [← h.stay e]; exact h0)
theorem Gs.refl {s : St} (h : AOk s.1) : Gs 0 s s := ⟨Ext.refl _, h, Nat.le_refl _, fun _ => rfl, fun h k => absurd h k⟩
theorem Gs.mono {n m : Nat} {s s' : St} (h : Gs n s s') (hn : n ≤ m) : Gs m s s' := ⟨h.ext, h.ok, by have := h.free; omega, h.stay, fun a b => ⟨(h.full a b).1, by have := (h.full a b).2; omega⟩⟩
theorem Gs.trans {n m : Nat} {a b c : St} (h : Gs n a b) (k : Gs m b c) : Gs (n + m) a c := by
  refine ⟨h.ext.trans k.ext, k.ok, by have := h.free; have := k.free; omega, fun e => ?_, fun e e2 => ?_⟩
  · have h1 := h.stay e
    rw [k.stay (by rw [h1]; exact e), h1]
  · by_cases q : b.2 = 0
    · have h1 := k.full q e2; have h2 := h.free; exact ⟨h1.1, by omega⟩
    · have h1 := h.full e q
      exact ⟨by rw [k.stay q, h1.1], by omega⟩
/-- the size that a node tells -/
def sizeA (A : Ar) (r : Int) : Int := match getA A r with
  | none => 0
  | some y => y.s
/-- one node is made -/
def MkX (s : St) (x : Node) (s' : St) (r : Int) : Prop :=
  (¬ s.2 = 0 ∧ s' = s ∧ r = 0) ∨ (s.2 = 0 ∧ mayMake s.1 x ∧ 0 < s.1.free.length ∧ s' = (makeA s.1 x, 0) ∧ r = makeR s.1) ∨
  (s.2 = 0 ∧ mayMake s.1 x ∧ s.1.free.length = 0 ∧ s' = (s.1, 2) ∧ r = 0) ∨ (s.2 = 0 ∧ ¬ mayMake s.1 x ∧ s' = (s.1, 1) ∧ r = 0)
theorem MkX.gs {s s' : St} {x : Node} {r : Int} (h : MkX s x s' r) (hA : AOk s.1) (hm : s.2 = 0 → mayMake s.1 x) : Gs 1 s s' := by
  rcases h with ⟨h0, rfl, rfl⟩ | ⟨h0, hm, hf, rfl, rfl⟩ | ⟨h0, hm, hf, rfl, rfl⟩ | ⟨h0, hn, rfl, rfl⟩
  · exact (Gs.refl hA).mono (by omega)
  · refine ⟨make_ext hA hf, make_ok hm hf, ?_, fun e => absurd h0 e, fun _ e => absurd rfl e⟩
    simp only [makeA, List.length_take]; omega
  · exact ⟨Ext.refl _, hA, by omega, fun e => absurd h0 e, fun _ _ => ⟨rfl, by omega⟩⟩
  · exact absurd (hm h0) hn
theorem MkX.u64 {s s' : St} {x : Node} {r : Int} (h : MkX s x s' r) : U64 r := by
  rcases h with ⟨_, _, rfl⟩ | ⟨_, hm, hf, _, rfl⟩ | ⟨_, _, _, _, rfl⟩ | ⟨_, _, _, rfl⟩
  · unfold U64; decide
  · exact ofR_U64 (make_isR hm.1 hf)
  · unfold U64; decide
  · unfold U64; decide
theorem MkX.get {s s' : St} {x : Node} {r : Int} (h : MkX s x s' r) (h0 : s'.2 = 0) : s.2 = 0 ∧ mayMake s.1 x ∧ 0 < s.1.free.length ∧ getA s'.1 r = some { x with gen := genAt s.1 (lastAt s.1) } ∧ Ext s.1 s'.1 := by
  rcases h with ⟨h1, rfl, rfl⟩ | ⟨h1, hm, hf, rfl, rfl⟩ | ⟨_, _, _, rfl, _⟩ | ⟨_, _, rfl, _⟩
  · exact absurd h0 h1
  · exact ⟨h1, hm, hf, get_made hm hf, make_ext hm.1 hf⟩
  · exact absurd h0 (show ¬ (2 : Int) = 0 by decide)
  · exact absurd h0 (show ¬ (1 : Int) = 0 by decide)
def getN (A : Ar) (r : Int) : Node := (getA A r).getD (bareN 0)
theorem getN_yes {A : Ar} {r : Int} {x : Node} (h : getA A r = some x) : getN A r = x := by unfold getN; rw [h]; rfl
theorem getN_v (A : Ar) (r : Int) : ∃ e, getV A r = .tuple #[(getN A r).val, .int .i64 e] := by
  unfold getN
  cases h : getA A r with
  | none => exact ⟨4, getV_no h⟩
  | some x => exact ⟨0, getV_yes h⟩
def wvC (na fa : Option Addr) (nc fc : Nat) (A : Ar) (bad : Int) : List Value := [.slice na A.nodes.length nc, .slice fa A.free.length fc, .int .i64 bad]
def wvA (na fa : Option Addr) (nc fc : Nat) (A : Ar) : List Value := [.slice na A.nodes.length nc, .slice fa A.free.length fc]
theorem row_pref {w : World} {b : Nat} {xs ys : List Value} {e : TypeId} (h : Has w b (xs ++ ys) e) : Row w ⟨b, 0, none⟩ xs := fun i v hv => h.row i v (by rw [List.getElem?_append_left (lt_of_get hv)]; exact hv)
def FoG (ty : TypeId) (b : Nat) (s : St) (C : Nat → Prop) (u : World) : Prop :=
  C b ∧ ∃ na fa nc fc M, Has u b (wvC na fa nc fc s.1 s.2) ty ∧ s.1.nodes.length ≤ nc ∧ s.1.free.length ≤ fc ∧ Ft M (fun u => ArR u na fa s.1) u ∧ ¬ M b ∧ ∀ k, M k → C k
theorem FoG.ft {ty : TypeId} {b : Nat} {s : St} {M : Nat → Prop} {w : World} {na fa : Option Addr} {nc fc : Nat} (h : Has w b (wvC na fa nc fc s.1 s.2) ty) (h1 : s.1.nodes.length ≤ nc) (h2 : s.1.free.length ≤ fc) (h3 : Ft M (fun u => ArR u na fa s.1) w) (h4 : ¬ M b) :
    Ft (fun k => k = b ∨ M k) (FoG ty b s (fun k => k = b ∨ M k)) w :=
  ⟨fun k hk => hk.elim (fun e => e ▸ h.lt) (h3.lt k), fun u a => ⟨.inl rfl, na, fa, nc, fc, M, h.step a (fun hn => hn (.inl rfl)), h1, h2, h3.step a (fun k hk hn => hn (.inr hk)), h4, fun k hk => .inr hk⟩⟩
theorem FoG.nok {ty : TypeId} {b : Nat} {s : St} {C : Nat → Prop} {u : World} (h : FoG ty b s C u) : ∀ x ∈ s.1.nodes, x.ok := by
  obtain ⟨_, na, fa, nc, fc, M, _, _, _, h, _⟩ := h
  exact h.now.nok
theorem zu0 : U64 0 := by unfold U64; decide
theorem place_of_at {a : Nat} (h : a < 512) : placeR ((a : Int) + 1) = a ∧ genR ((a : Int) + 1) = 0 ∧ U64 ((a : Int) + 1) ∧ rightR ((a : Int) + 1) = true := by
  have hn : nodeR ((a : Int) + 1) := (nodeR_iff _).2 (by omega)
  refine ⟨by unfold placeR; rw [if_pos hn]; omega, by unfold genR; rw [if_pos hn]; omega, by unfold U64; omega, hn.2⟩
/-- the first i of the free places of a built arena -/
def freeB (size i : Nat) : List Int := (List.range i).map fun (j : Nat) => (size : Int) - 1 - j
theorem row_set0 {w : World} {b : Nat} {e : TypeId} {sz : Nat} {rows : List (List Value)} {r : List Value} {i : Nat} (h : Has w b (splice rows.flatten (i * sz) r) e) (hl : ∀ r ∈ rows, r.length = sz) (hi : i < rows.length) (hr : r.length = sz) : Has w b (rows.set i r).flatten e := by
  have := Has.row_set (extra := []) (rows := rows) (i := i) (sz := sz) (r := r) (by rw [List.append_nil]; exact h) hl hi hr
  rw [List.append_nil] at this
  exact this
theorem slDrop {w : World} {a : Option Addr} {sz : Nat} {rows : List (List Value)} (h : Sl w a sz rows) (k : Nat) {c : Nat} (hc : rows.length ≤ c) : Sl w (if c = k then a else a.map (·.add (k * sz))) sz (rows.drop k) := by
  by_cases e : c = k
  · rw [if_pos e, List.drop_eq_nil_of_le (by omega)]; exact Sl.nil _ _ _
  · rw [if_neg e]
    refine ⟨fun hne => ?_, fun i r hr => ?_⟩
    · have := h.some (by intro e2; rw [e2] at hne; simp at hne)
      cases a with
      | none => simp at this
      | some x => rfl
    · rw [List.getElem?_drop] at hr
      have h1 := h.row (k + i) r hr
      have := h.some (by intro e2; rw [e2] at hr; simp at hr)
      cases a with
      | none => simp at this
      | some x =>
        simp only [Option.map_some, Option.getD_some] at h1 ⊢
        rw [add_add, ← Nat.add_mul]
        exact h1
theorem slTakeM {α : Type} {w : World} {a : Option Addr} {sz : Nat} {f : α → List Value} {l : List α} (h : Sl w a sz (l.map f)) (k : Nat) : Sl w a sz ((l.take k).map f) := by rw [List.map_take]; exact h.take k
theorem slDropM {α : Type} {w : World} {a : Option Addr} {sz : Nat} {f : α → List Value} {l : List α} (h : Sl w a sz (l.map f)) (k : Nat) {c : Nat} (hc : l.length ≤ c) : Sl w (if c = k then a else a.map (·.add (k * sz))) sz ((l.drop k).map f) := by rw [List.map_drop]; exact slDrop h k (by rw [List.length_map]; exact hc)
end Go.Proofs.Ytbfjobmebkhblaa
set_option linter.unusedVariables false
set_option linter.unusedSimpArgs false
namespace Go.Proofs.Ytbfjobmebkhblaa
open Go Go.XL
def putStep (key v : Int) (s : List It × Bool) (x : It) : List It × Bool :=
  (if x.k = key then (if s.2 = false ∧ key ≤ x.k then s.1 ++ [⟨key, v⟩] else s.1) else (if s.2 = false ∧ key ≤ x.k then s.1 ++ [⟨key, v⟩] else s.1) ++ [x], s.2 || decide (key ≤ x.k))
def putS (l : List It) (key v : Int) : Nat → List It × Bool
  | 0 => ([], false)
  | i + 1 => putStep key v (putS l key v i) (l.getD i it0)
def putR (l : List It) (key v : Int) : List It := if (putS l key v l.length).2 then (putS l key v l.length).1 else (putS l key v l.length).1 ++ [⟨key, v⟩]
theorem putStep_len {key v : Int} {s : List It × Bool} {x : It} {i : Nat} (h : s.1.length ≤ i + (if s.2 then 1 else 0)) : (putStep key v s x).1.length ≤ i + 1 + (if (putStep key v s x).2 then 1 else 0) := by
  obtain ⟨o, d⟩ := s
  simp only [putStep] at h ⊢
  by_cases h2 : key ≤ x.k
  · rw [decide_eq_true h2, Bool.or_true, if_pos rfl]
    cases d <;> simp only [Bool.false_eq_true, if_false, if_true, true_and, false_and] at h ⊢
    · rw [if_pos h2]; split <;> simp <;> omega
    · split <;> simp <;> omega
  · rw [decide_eq_false h2, Bool.or_false]
    cases d <;> simp only [Bool.false_eq_true, if_false, if_true, true_and, false_and] at h ⊢
    · rw [if_neg h2]; split <;> simp <;> omega
    · split <;> simp <;> omega
theorem putS_len (l : List It) (key v : Int) : ∀ i, (putS l key v i).1.length ≤ i + (if (putS l key v i).2 then 1 else 0)
  | 0 => by simp [putS]
  | i + 1 => putStep_len (putS_len l key v i)
theorem putS_step {l : List It} {key v : Int} {i : Nat} {x : It} (h : l[i]? = some x) : putS l key v (i + 1) = (if x.k = key then (if (putS l key v i).2 = false ∧ key ≤ x.k then (putS l key v i).1 ++ [⟨key, v⟩] else (putS l key v i).1) else (if (putS l key v i).2 = false ∧ key ≤ x.k then (putS l key v i).1 ++ [⟨key, v⟩] else (putS l key v i).1) ++ [x], (putS l key v i).2 || decide (key ≤ x.k)) := by
  have : l.getD i it0 = x := by rw [List.getD_eq_getElem?_getD, h]; rfl
  rw [putS, this, putStep]
theorem putS_srt {l : List It} (hs : Srt l) (key v : Int) : ∀ i, i ≤ l.length → (putS l key v i).2 = (l.take i).any (fun x => decide (key ≤ x.k)) ∧ (putS l key v i).1 = (l.take i).filter (fun x => decide (x.k < key)) ++ (if (putS l key v i).2 then ⟨key, v⟩ :: (l.take i).filter (fun x => decide (key < x.k)) else [])
  | 0, _ => by simp [putS]
  | i + 1, hi => by
    obtain ⟨x, hx⟩ := getSome (l := l) (i := i) (by omega)
    obtain ⟨h1, h2⟩ := putS_srt hs key v i (by omega)
    have ht : l.take (i + 1) = l.take i ++ [x] := by rw [List.take_add_one, hx]; rfl
    rw [putS_step hx, ht, h1]
    simp only [List.any_append, List.any_cons, List.any_nil, Bool.or_false, List.filter_append, List.filter_cons, List.filter_nil]
    refine ⟨trivial, ?_⟩
    rw [h1] at h2
    have hlow : ∀ y ∈ l.take i, y.k < x.k := fun y hy => by
      obtain ⟨j, hj⟩ := List.getElem?_of_mem hy
      have hjl := lt_of_get hj
      rw [List.length_take] at hjl
      rw [List.getElem?_take_of_lt (by omega)] at hj
      have := List.pairwise_iff_getElem.1 hs j i (by omega) (by omega) (by omega)
      rw [getElem_of hj, getElem_of hx] at this
      exact this
    cases ha : (l.take i).any (fun x => decide (key ≤ x.k)) with
    | false =>
      rw [ha] at h2
      simp only [Bool.false_eq_true, if_false, List.append_nil] at h2
      simp only [true_and, Bool.false_or]
      rw [h2]
      have hno : (l.take i).filter (fun x => decide (key < x.k)) = [] := by
        rw [List.filter_eq_nil_iff]
        intro y hy
        have := List.any_eq_false.1 ha y hy
        simp only [decide_eq_true_eq] at this ⊢
        omega
      rw [hno]
      by_cases e1 : x.k = key
      · rw [if_pos e1, if_pos (by omega), decide_eq_false (show ¬ x.k < key by omega), decide_eq_true (show key ≤ x.k by omega), decide_eq_false (show ¬ key < x.k by omega)]
        simp
      · rw [if_neg e1]
        by_cases e2 : key ≤ x.k
        · rw [if_pos e2, decide_eq_false (show ¬ x.k < key by omega), decide_eq_true e2, decide_eq_true (show key < x.k by omega)]
          simp
        · rw [if_neg e2, decide_eq_true (show x.k < key by omega), decide_eq_false e2]
          simp
    | true =>
      rw [ha] at h2
      simp only [if_true] at h2
      obtain ⟨y, hy, hyk⟩ := List.any_eq_true.1 ha
      have hyk := of_decide_eq_true hyk
      have := hlow y hy
      simp only [Bool.true_or, if_true]
      rw [if_neg (by omega), if_neg (by rintro ⟨e, _⟩; cases e), h2, decide_eq_false (show ¬ x.k < key by omega), decide_eq_true (show key < x.k by omega)]
      simp
theorem putR_srt {l : List It} (hs : Srt l) (key v : Int) : putR l key v = l.filter (fun x => decide (x.k < key)) ++ ⟨key, v⟩ :: l.filter (fun x => decide (key < x.k)) := by
  obtain ⟨h1, h2⟩ := putS_srt hs key v l.length (Nat.le_refl _)
  rw [List.take_length] at h1 h2
  unfold putR
  rw [h2, h1]
  cases ha : l.any (fun x => decide (key ≤ x.k)) with
  | true => rfl
  | false =>
    have hno : l.filter (fun x => decide (key < x.k)) = [] := by
      rw [List.filter_eq_nil_iff]
      intro y hy
      have := List.any_eq_false.1 ha y hy
      simp only [decide_eq_true_eq] at this ⊢
      omega
    rw [hno]; simp
theorem putR_ok {l : List It} (hs : Srt l) (key v : Int) : Srt (putR l key v) := by
  rw [putR_srt hs]
  exact Srt.join (List.Pairwise.filter _ hs) (List.Pairwise.filter _ hs) (fun y hy => of_decide_eq_true (List.mem_filter.1 hy).2) (fun y hy => of_decide_eq_true (List.mem_filter.1 hy).2)
theorem putR_len (l : List It) (key v : Int) : (putR l key v).length ≤ l.length + 1 := by
  have := putS_len l key v l.length
  unfold putR
  split
  · rename_i h; rw [if_pos h] at this; exact this
  · rename_i h; rw [if_neg h] at this; simp; omega
theorem c_refPut (l : List It) (a : Option Addr) (c m : Nat) (hm : m = l.length) (key v : Int) (w : World) (hl : Sl w a 2 (l.map It.cells)) (hb : l.length ≤ 1000000) :
    FC Try.prog 16 [.slice a m c, .int .i64 key, .int .i64 v] w (fun u w' => ∃ a' c', u = .slice a' ((putR l key v).map It.cells).length c' ∧ Ows w.heap.size w' 29 2 (.slice a' ((putR l key v).map It.cells).length c') ((putR l key v).map It.cells) ∧ Sub w w') := by
  subst hm
  have hpl := putS_len l key v
  refine FC.intro Try.func16 rfl Try.ntmps16 rfl ?_
  have S := Sub.refl w
  refine RC.seq ?_
  refine RC.region rfl ?_
  refine RL.ev (.assign rfl) rfl rfl ?_
  refine RL.nil (RC.back ?_)
  refine RC.seq ?_
  refine RC.region rfl ?_
  refine RL.buildSlice0 sl26 rfl rfl (fun b_11 w_11 e_11 z_11 hb_11 s_11 => ?_)
  have ge_11 := S.le e_11
  have S := S.trans s_11
  refine RL.ev (.assign rfl) rfl rfl ?_
  refine RL.nil (RC.back ?_)
  refine RC.seq ?_
  refine RC.region rfl ?_
  refine RL.ev (.assign rfl) rfl rfl ?_
  refine RL.nil (RC.back ?_)
  refine RC.seq ?_
  refine RC.seq ?_
  refine RC.region rfl ?_
  refine RL.ev (.move rfl) rfl rfl ?_
  refine RL.ev (.len sl26 rfl) rfl rfl ?_
  refine RL.ev (.move rfl) rfl rfl ?_
  refine RL.nil (RC.back ?_)
  refine RC.block ?_
  refine RC.loop (α := Nat × List It × Bool × Option Addr × Nat × Nat) (fun x => [(1, .int .i64 key), (2, .int .i64 v), (7, .slice x.2.2.2.1 x.2.2.2.2.1 x.2.2.2.2.2), (8, .bool x.2.2.1), (12, .slice a l.length c), (13, .int .i64 (l.length : Int)), (14, .int .i64 (x.1 : Int))]) (fun x w1 => (x.1 ≤ l.length ∧ putS l key v x.1 = (x.2.1, x.2.2.1)) ∧ Ows w.heap.size w1 29 2 (.slice x.2.2.2.1 x.2.2.2.2.1 x.2.2.2.2.2) (x.2.1.map It.cells) ∧ Sub w w1) (fun x => l.length - x.1) (0, [], false, some ⟨b_11, 0, none⟩, 0, 0) (keep_of (by repeat (first | exact trivial | refine And.intro rfl ?_))) (⟨⟨Nat.zero_le _, rfl⟩, Ows.lit0 hb_11 (by omega), S⟩) (fun x w1 hJ => ?_)
  obtain ⟨i, o, d, ao, mo, co⟩ := x; obtain ⟨⟨hi, hp⟩, o7, S⟩ := hJ; simp only [] at hi hp o7; obtain rfl := o7.sl.2; have hol := hpl i; rw [hp] at hol; simp only [] at hol; have hol2 : o.length ≤ i + 1 := Nat.le_trans hol (by split <;> omega); have szB := S.size
  refine RC.seq ?_
  refine RC.region rfl ?_
  refine RL.ev (.bin rfl rfl rfl) rfl rfl ?_
  refine RL.nil (RC.back ?_)
  refine RC.seq ?_
  refine RC.cond_dec rfl (fun h2 => ?_) (fun h2 => ?_)
  ·
    obtain ⟨x, hx⟩ := getSome (l := l) (i := i) (by omega)
    have hst := putS_step (key := key) (v := v) hx
    rw [hp] at hst
    simp only [] at hst
    refine RC.skip (RC.back ?_)
    refine RC.seq ?_
    refine RC.block ?_
    refine RC.seq ?_
    refine RC.region rfl ?_
    refine RL.ev (.indexS sl26 rfl rfl (by omega) (hl.is (i := 0) (by simp only [List.length_map, List.length_cons, List.length_nil]; omega))) rfl rfl ?_
    refine RL.ev (.loadR (x.cells) sh29 rfl ((hl.sub S).rowAt (enc := It.cells) (i := i) hx) rfl) rfl rfl ?_
    refine RL.alloc ze29 rfl rfl (fun b_10 w_10 e_10 z_10 hb_10 s_10 => ?_)
    have ge_10 := S.le e_10
    have d_o7_b_10 := o7.neNew e_10
    have S := S.trans s_10
    have o7 := o7.sub s_10
    have szB := Nat.le_trans szB s_10.size
    refine RL.store sh29 rfl rfl rfl hb_10 (by exact Nat.le_of_ble_eq_true rfl) (by rfl) rfl (fun w3 z3 hb_10 a3 => ?_)
    have S := S.upd a3 ge_10
    have o7 := o7.updD a3 d_o7_b_10
    have szB := Nat.le_trans szB a3.size
    have hb_10 : Has w3 b_10 (x.cells) _ := hb_10.now (by kernel_rfl)
    refine RL.nil (RC.back ?_)
    refine RC.cutx (α := List It × Bool × Option Addr × Nat × Nat) (fun y_ => [(1, .int .i64 key), (2, .int .i64 v), (7, .slice y_.2.2.1 y_.2.2.2.1 y_.2.2.2.2), (8, .bool y_.2.1), (10, .pointer (some ⟨b_10, 0, none⟩)), (12, .slice a l.length c), (13, .int .i64 (l.length : Int)), (14, .int .i64 (i : Int))]) (fun y_ w4 => (y_.1 = (if d = false ∧ key ≤ x.k then o ++ [⟨key, v⟩] else o) ∧ y_.2.1 = (d || decide (key ≤ x.k)) ∧ y_.1.length ≤ i + 2) ∧ Ows w.heap.size w4 29 2 (.slice y_.2.2.1 y_.2.2.2.1 y_.2.2.2.2) (y_.1.map It.cells) ∧ Has w4 b_10 x.cells 29 ∧ (∀ k, ob (.slice y_.2.2.1 y_.2.2.2.1 y_.2.2.2.2) = some k → k ≠ b_10) ∧ Sub w w4) ?_ (fun y_ w4 hJ => ?_)
    ·
      refine RC.seq ?_
      refine RC.region rfl ?_
      refine RL.ev (.move rfl) rfl rfl ?_
      refine RL.ev (.not rfl) rfl rfl ?_
      refine RL.ev (.move rfl) rfl rfl ?_
      refine RL.splitB 20 rfl (fun h5 => ?_) (fun h5 => ?_)
      ·
        have hd : d = false := (by simpa using h5)
        refine RL.ev (.field0 fo29_0 rfl) rfl rfl ?_
        refine RL.ev (.load1 sh2 rfl (hb_10.cell rfl)) rfl rfl ?_
        refine RL.ev (.move rfl) rfl rfl ?_
        refine RL.ev (.bin rfl rfl rfl) rfl rfl ?_
        refine RL.ev (.pick_t rfl rfl) rfl rfl ?_
        refine RL.nil (RC.back ?_)
        refine RC.cond_dec rfl (fun h6 => ?_) (fun h6 => ?_)
        ·
          have hk := h6
          refine RC.seq ?_
          refine RC.region rfl ?_
          refine RL.ev (.move rfl) rfl rfl ?_
          refine RL.ev (.move rfl) rfl rfl ?_
          refine RL.ev (.move rfl) rfl rfl ?_
          refine RL.ev (.buildS ze29 pl29 rfl rfl) rfl rfl ?_
          refine RL.buildSlice1 sl26 _ ze29 rfl rfl rfl rfl rfl rfl rfl (fun b_30 w_30 e_30 z_30 hb_30 s_30 => ?_)
          have ge_30 := S.le e_30
          have n_10__30 := hb_10.ne e_30
          have d_o7_b_30 := o7.neNew e_30
          have S := S.trans s_30
          have o7 := o7.sub s_30
          have szB := Nat.le_trans szB s_30.size
          have hb_10 := hb_10.sub s_30
          have sz_31 := S.size
          have ltb_10_31 := hb_10.lt
          have ltb_30_31 := hb_30.lt
          refine RL.append2 (base := w.heap.size) (rows := o.map It.cells) (news := [_]) sl26 ze29 rfl rfl rfl rfl (.inl o7) (Has.slOne hb_30) rfl (by intro r hr; rw [List.mem_singleton] at hr; subst hr; rfl) rfl (by (try simp only [List.length_map, List.length_nil, List.length_append, List.length_cons]); omega) (by (try simp only [List.length_map, List.length_nil, List.length_append, List.length_cons]); omega) (by omega) rfl rfl (fun v_31 w_31 hc_31 ho_31 ag_31 ob_31 => ?_)
          have o31 := ho_31 (.inl (by simp))
          rw [show _ ++ [_] = ((o ++ [(⟨key, v⟩ : It)]).map It.cells) from by rw [List.map_append]; rfl] at o31
          have d_o31_b_10 := obNe ob_31 d_o7_b_10 hb_10.lt
          have S := S.agrN ag_31 (fun k e => Nat.le_trans (by omega) e.2)
          have szB := Nat.le_trans szB ag_31.size
          have hb_10 := hb_10.step ag_31 (fun e => d_o7_b_10 _ e.1 rfl)
          obtain ⟨a_31, c_31, rfl, k_31⟩ := o31.form
          refine RL.ev (.assign rfl) rfl rfl ?_
          refine RL.nil (RC.back ?_)
          refine RC.region rfl ?_
          refine RL.ev (.assign rfl) rfl rfl ?_
          exact RL.nil (fun a ka => ⟨(o ++ [⟨key, v⟩], true, a_31, _, c_31), ⟨⟨by rw [if_pos ⟨hd, hk⟩], by rw [decide_eq_true hk, Bool.or_true], by simp; omega⟩, o31, hb_10, d_o31_b_10, S⟩, ka.keep (keep_of (by repeat (first | exact trivial | refine And.intro rfl ?_)))⟩)
        ·
          have hk := h6
          exact RC.skip (fun a ka => ⟨(o, d, ao, _, co), ⟨⟨by rw [if_neg (fun e => hk e.2)], by rw [decide_eq_false hk, Bool.or_false], by simp; omega⟩, o7, hb_10, d_o7_b_10, S⟩, ka.keep (keep_of (by repeat (first | exact trivial | refine And.intro rfl ?_)))⟩)
      ·
        have hd : d = true := (by simpa using h5)
        refine RL.off rfl rfl ?_
        refine RL.off rfl rfl ?_
        refine RL.off rfl rfl ?_
        refine RL.off rfl rfl ?_
        refine RL.ev (.pick_f rfl rfl) rfl rfl ?_
        refine RL.nil (RC.back ?_)
        refine RC.cond_f rfl ?_
        exact RC.skip (fun a ka => ⟨(o, d, ao, _, co), ⟨⟨by rw [if_neg (fun e => by rw [hd] at e; cases e.1)], by rw [hd]; rfl, by simp; omega⟩, o7, hb_10, d_o7_b_10, S⟩, ka.keep (keep_of (by repeat (first | exact trivial | refine And.intro rfl ?_)))⟩)
    obtain ⟨o1, d1, a1, m1, c1⟩ := y_
    obtain ⟨⟨ho1, hd1, hl1⟩, o7, hb_10, d7, S⟩ := hJ
    simp only [] at ho1 hd1 hl1 o7 d7
    obtain rfl := o7.sl.2
    rw [← ho1, ← hd1] at hst
    have szB := S.size
    refine RC.seq ?_
    refine RC.region rfl ?_
    refine RL.ev (.field0 fo29_0 rfl) rfl rfl ?_
    refine RL.ev (.load1 sh2 rfl (hb_10.cell rfl)) rfl rfl ?_
    refine RL.ev (.move rfl) rfl rfl ?_
    refine RL.ev (.bin rfl rfl rfl) rfl rfl ?_
    refine RL.nil (RC.back ?_)
    refine RC.cond_dec rfl (fun h7 => ?_) (fun h7 => ?_)
    ·
      have hne := h7
      refine RC.region rfl ?_
      refine RL.ev (.move rfl) rfl rfl ?_
      refine RL.ev (.loadR (x.cells) sh29 rfl hb_10.row rfl) rfl rfl ?_
      refine RL.buildSlice1 sl26 _ ze29 rfl rfl rfl rfl rfl rfl rfl (fun b_38 w_38 e_38 z_38 hb_38 s_38 => ?_)
      have ge_38 := S.le e_38
      have n_10__38 := hb_10.ne e_38
      have d_o7_b_38 := o7.neNew e_38
      have S := S.trans s_38
      have hb_10 := hb_10.sub s_38
      have o7 := o7.sub s_38
      have szB := Nat.le_trans szB s_38.size
      have sz_39 := S.size
      have ltb_10_39 := hb_10.lt
      have ltb_38_39 := hb_38.lt
      refine RL.append2 (base := w.heap.size) (rows := o1.map It.cells) (news := [_]) sl26 ze29 rfl rfl rfl rfl (.inl o7) (Has.slOne hb_38) rfl (by intro r hr; rw [List.mem_singleton] at hr; subst hr; rfl) rfl (by (try simp only [List.length_map, List.length_nil, List.length_append, List.length_cons]); omega) (by (try simp only [List.length_map, List.length_nil, List.length_append, List.length_cons]); omega) (by omega) rfl rfl (fun v_39 w_39 hc_39 ho_39 ag_39 ob_39 => ?_)
      have o39 := ho_39 (.inl (by simp))
      rw [show _ ++ [_] = ((o1 ++ [x]).map It.cells) from by rw [List.map_append]; rfl] at o39
      have d_o39_b_10 := obNe ob_39 d7 hb_10.lt
      have S := S.agrN ag_39 (fun k e => Nat.le_trans (by omega) e.2)
      have hb_10 := hb_10.step ag_39 (fun e => d7 _ e.1 rfl)
      have szB := Nat.le_trans szB ag_39.size
      obtain ⟨a_39, c_39, rfl, k_39⟩ := o39.form
      refine RL.ev (.assign rfl) rfl rfl ?_
      refine RL.nil (RC.back ?_)
      refine RC.region rfl ?_
      refine RL.ev (.as (.bin rfl rfl rfl) (wi64 (y := ((i + 1 : Nat) : Int)) (by omega) (by omega))) rfl rfl ?_
      refine RL.ev (.move rfl) rfl rfl ?_
      exact RL.nil (fun a ka => ⟨(i + 1, o1 ++ [x], d1, a_39, _, c_39), ⟨⟨by omega, by rw [hst, if_neg hne]⟩, o39, S⟩, by omega, ka.keep (keep_of (by repeat (first | exact trivial | refine And.intro rfl ?_)))⟩)
    ·
      have hne := Decidable.not_not.1 h7
      refine RC.skip (RC.back ?_)
      refine RC.region rfl ?_
      refine RL.ev (.as (.bin rfl rfl rfl) (wi64 (y := ((i + 1 : Nat) : Int)) (by omega) (by omega))) rfl rfl ?_
      refine RL.ev (.move rfl) rfl rfl ?_
      exact RL.nil (fun a ka => ⟨(i + 1, o1, d1, a1, _, c1), ⟨⟨by omega, by rw [hst, if_pos hne]⟩, o7, S⟩, by omega, ka.keep (keep_of (by repeat (first | exact trivial | refine And.intro rfl ?_)))⟩)
  ·
    obtain rfl : i = l.length := (by omega)
    refine RC.exit rfl (RC.back ?_)
    refine RC.seq ?_
    refine RC.seq ?_
    refine RC.region rfl ?_
    refine RL.ev (.move rfl) rfl rfl ?_
    refine RL.ev (.not rfl) rfl rfl ?_
    refine RL.nil (RC.back ?_)
    refine RC.cond rfl (fun h8 => ?_) (fun h8 => ?_)
    ·
      have hd : d = false := (by simpa using h8)
      have hres : putR l key v = o ++ [⟨key, v⟩] := (by rw [putR, hp, hd]; rfl)
      refine RC.region rfl ?_
      refine RL.ev (.move rfl) rfl rfl ?_
      refine RL.ev (.move rfl) rfl rfl ?_
      refine RL.ev (.move rfl) rfl rfl ?_
      refine RL.ev (.buildS ze29 pl29 rfl rfl) rfl rfl ?_
      refine RL.buildSlice1 sl26 _ ze29 rfl rfl rfl rfl rfl rfl rfl (fun b_47 w_47 e_47 z_47 hb_47 s_47 => ?_)
      have ge_47 := S.le e_47
      have d_o7_b_47 := o7.neNew e_47
      have S := S.trans s_47
      have o7 := o7.sub s_47
      have szB := Nat.le_trans szB s_47.size
      have sz_48 := S.size
      have ltb_47_48 := hb_47.lt
      refine RL.append2 (base := w.heap.size) (rows := o.map It.cells) (news := [_]) sl26 ze29 rfl rfl rfl rfl (.inl o7) (Has.slOne hb_47) rfl (by intro r hr; rw [List.mem_singleton] at hr; subst hr; rfl) rfl (by (try simp only [List.length_map, List.length_nil, List.length_append, List.length_cons]); omega) (by (try simp only [List.length_map, List.length_nil, List.length_append, List.length_cons]); omega) (by omega) rfl rfl (fun v_48 w_48 hc_48 ho_48 ag_48 ob_48 => ?_)
      have o48 := ho_48 (.inl (by simp))
      rw [show _ ++ [_] = ((o ++ [(⟨key, v⟩ : It)]).map It.cells) from by rw [List.map_append]; rfl] at o48
      have S := S.agrN ag_48 (fun k e => Nat.le_trans (by omega) e.2)
      have szB := Nat.le_trans szB ag_48.size
      obtain ⟨a_48, c_48, rfl, k_48⟩ := o48.form
      refine RL.ev (.assign rfl) rfl rfl ?_
      refine RL.nil (RC.back ?_)
      refine RC.seq ?_
      refine RC.region rfl ?_
      refine RL.ev (.move rfl) rfl rfl ?_
      refine RL.ev (.assign rfl) rfl rfl ?_
      refine RL.nil (RC.back ?_)
      refine RC.done (rs := [.tmp 6]) (vs := [_]) rfl rfl ⟨rfl, trivial⟩ ?_
      -- end 1
      rw [hres]
      exact ⟨_, _, rfl, o48, S⟩
    ·
      have hd : d = true := (by simpa using h8)
      have hres : putR l key v = o := (by rw [putR, hp, hd]; rfl)
      refine RC.skip (RC.back ?_)
      refine RC.seq ?_
      refine RC.region rfl ?_
      refine RL.ev (.move rfl) rfl rfl ?_
      refine RL.ev (.assign rfl) rfl rfl ?_
      refine RL.nil (RC.back ?_)
      refine RC.done (rs := [.tmp 6]) (vs := [_]) rfl rfl ⟨rfl, trivial⟩ ?_
      -- end 2
      rw [hres]
      exact ⟨_, _, rfl, o7, S⟩
theorem filter_take {p : It → Bool} {l : List It} {i : Nat} {x : It} (h : l[i]? = some x) : (l.take (i + 1)).filter p = (l.take i).filter p ++ (if p x then [x] else []) := by
  rw [List.take_add_one, h]
  simp only [Option.toList, List.filter_append, List.filter_cons, List.filter_nil]
end Go.Proofs.Ytbfjobmebkhblaa
set_option linter.unusedVariables false
set_option linter.unusedSimpArgs false
namespace Go.Proofs.Ytbfjobmebkhblaa
open Go Go.XL
/-- a key's digit at a level -/
def dig (key : Int) (lv : Nat) : Nat := hashOf key / 4 ^ lv % 4
theorem dig_lt (key : Int) (lv : Nat) : dig key lv < 4 := Nat.mod_lt _ (by decide)
def hN (kind g n v s : Int) (ks : List Int) : Node := ⟨kind, g, n, v, s, ks.getD 0 0, ks.getD 1 0, ks.getD 2 0, ks.getD 3 0, ks.getD 4 0, ks.getD 5 0, ks.getD 6 0, ks.getD 7 0, ks.getD 8 0, 0, 0⟩
/-- those of a digit at a level -/
def ofL (lv i : Nat) (l : List It) : List It := l.filter fun x => decide (dig x.k lv = i)
theorem ofL_mem {lv i : Nat} {l : List It} {x : It} : x ∈ ofL lv i l ↔ x ∈ l ∧ dig x.k lv = i := by unfold ofL; rw [List.mem_filter, decide_eq_true_iff]
/-- keys that are unlike -/
def Ap (l : List It) : Prop := l.Pairwise fun x y => ¬ x.k = y.k
theorem Ap.perm {l m : List It} (h : Ap l) (p : l.Perm m) : Ap m := (List.Perm.pairwise_iff (fun h e => h e.symm) p).1 h
theorem Ap.filter {l : List It} (h : Ap l) (p : It → Bool) : Ap (l.filter p) := List.Pairwise.filter p h
theorem Srt.ap {l : List It} (h : Srt l) : Ap l := List.Pairwise.imp (fun h e => by omega) h
theorem Ap.key {l : List It} (h : Ap l) {x y : It} (hx : x ∈ l) (hy : y ∈ l) (e : x.k = y.k) : x = y := by
  induction l with
  | nil => cases hx
  | cons z l ih =>
    obtain ⟨h1, h2⟩ := List.pairwise_cons.1 h
    rcases List.mem_cons.1 hx with e1 | e1 <;> rcases List.mem_cons.1 hy with e2 | e2
    · rw [e1, e2]
    · exact absurd (e1 ▸ e) (h1 y e2)
    · exact absurd (e2 ▸ e.symm) (h1 x e1)
    · exact ih h2 e1 e2
/-- the leaf of an item -/
def lfA (A : Ar) (r : Int) (x : It) : Prop := ∃ g, getA A r = some (hN 3 g x.k x.v 0 [])
/-- the node of keys of one hash -/
def Clash (A : Ar) (r : Int) (l : List It) : Prop := ∃ g ks m, List.Perm m l ∧ Srt m ∧ m.length ≤ 9 ∧ ks.length = m.length ∧ getA A r = some (hN 4 g 0 0 m.length ks) ∧ ∀ i x, m[i]? = some x → lfA A (ks.getD i 0) x
/-- a reference is the table of keys, so many levels above the last -/
def IsH (A : Ar) : Nat → Int → List It → Prop
  | 0, r, l => (l = [] ∧ r = 0) ∨ (∃ x, l = [x] ∧ lfA A r x) ∨ (2 ≤ l.length ∧ Clash A r l)
  | k + 1, r, l => (l = [] ∧ r = 0) ∨ (∃ x, l = [x] ∧ lfA A r x) ∨ (2 ≤ l.length ∧ ∃ g ks, ks.length = 4 ∧ getA A r = some (hN 2 g 0 0 l.length ks) ∧ ∀ i, i < 4 → IsH A k (ks.getD i 0) (ofL (9 - k) i l))
theorem isH_nil {A : Ar} {k : Nat} {r : Int} : IsH A k r [] ↔ r = 0 := by
  cases k with
  | zero =>
    constructor
    · rintro (⟨_, h⟩ | ⟨x, h, _⟩ | ⟨h, _⟩)
      · exact h
      · cases h
      · simp at h
    · exact fun h => .inl ⟨rfl, h⟩
  | succ k =>
    constructor
    · rintro (⟨_, h⟩ | ⟨x, h, _⟩ | ⟨h, _⟩)
      · exact h
      · cases h
      · simp at h
    · exact fun h => .inl ⟨rfl, h⟩
theorem isH_one {A : Ar} {k : Nat} {r : Int} {x : It} : IsH A k r [x] ↔ lfA A r x := by
  cases k with
  | zero =>
    constructor
    · rintro (⟨h, _⟩ | ⟨y, h, h2⟩ | ⟨h, _⟩)
      · cases h
      · cases h; exact h2
      · simp at h
    · exact fun h => .inr (.inl ⟨x, rfl, h⟩)
  | succ k =>
    constructor
    · rintro (⟨h, _⟩ | ⟨y, h, h2⟩ | ⟨h, _⟩)
      · cases h
      · cases h; exact h2
      · simp at h
    · exact fun h => .inr (.inl ⟨x, rfl, h⟩)
theorem isH_trie {A : Ar} {k : Nat} {r : Int} {l : List It} (hl : 2 ≤ l.length) : IsH A (k + 1) r l ↔ ∃ g ks, ks.length = 4 ∧ getA A r = some (hN 2 g 0 0 l.length ks) ∧ ∀ i, i < 4 → IsH A k (ks.getD i 0) (ofL (9 - k) i l) := by
  constructor
  · rintro (⟨h, _⟩ | ⟨y, h, h2⟩ | ⟨h, h2⟩)
    · rw [h] at hl; simp at hl
    · rw [h] at hl; simp at hl
    · exact h2
  · exact fun h => .inr (.inr ⟨hl, h⟩)
theorem isH_clash {A : Ar} {r : Int} {l : List It} (hl : 2 ≤ l.length) : IsH A 0 r l ↔ Clash A r l := by
  constructor
  · rintro (⟨h, _⟩ | ⟨y, h, h2⟩ | ⟨h, h2⟩)
    · rw [h] at hl; simp at hl
    · rw [h] at hl; simp at hl
    · exact h2
  · exact fun h => .inr (.inr ⟨hl, h⟩)
theorem row_cases (l : List It) : l = [] ∨ (∃ x, l = [x]) ∨ 2 ≤ l.length := by
  rcases l with _ | ⟨x, _ | ⟨y, l⟩⟩
  · exact .inl rfl
  · exact .inr (.inl ⟨x, rfl⟩)
  · exact .inr (.inr (by simp))
theorem Clash.perm {A : Ar} {r : Int} {l m : List It} (h : Clash A r l) (p : l.Perm m) : Clash A r m := by
  obtain ⟨g, ks, q, h1, h2⟩ := h
  exact ⟨g, ks, q, h1.trans p, h2⟩
theorem IsH.perm {A : Ar} : ∀ {k : Nat} {r : Int} {l m : List It}, IsH A k r l → l.Perm m → IsH A k r m
  | k, r, l, m, h, p => by
    rcases row_cases l with rfl | ⟨x, rfl⟩ | hl
    · rw [List.Perm.nil_eq p.symm.symm] at h; exact h
    · rw [← List.Perm.singleton_eq p]; exact h
    · have hm : 2 ≤ m.length := by rw [← p.length_eq]; exact hl
      cases k with
      | zero => exact (isH_clash hm).2 (((isH_clash hl).1 h).perm p)
      | succ k =>
        obtain ⟨g, ks, h1, h2, h3⟩ := (isH_trie hl).1 h
        exact (isH_trie hm).2 ⟨g, ks, h1, by rw [← p.length_eq]; exact h2, fun i hi => IsH.perm (h3 i hi) (p.filter _)⟩
theorem lfA.ext {A B : Ar} {r : Int} {x : It} (h : lfA A r x) (e : Ext A B) : lfA B r x := by
  obtain ⟨g, h⟩ := h; exact ⟨g, e.get h⟩
theorem IsH.ext {A B : Ar} (e : Ext A B) : ∀ {k : Nat} {r : Int} {l : List It}, IsH A k r l → IsH B k r l
  | k, r, l, h => by
    rcases row_cases l with rfl | ⟨x, rfl⟩ | hl
    · exact isH_nil.2 (isH_nil.1 h)
    · exact isH_one.2 ((isH_one.1 h).ext e)
    · cases k with
      | zero =>
        obtain ⟨g, ks, q, h1, h2, h3, h4, h5, h6⟩ := (isH_clash hl).1 h
        exact (isH_clash hl).2 ⟨g, ks, q, h1, h2, h3, h4, e.get h5, fun i x hx => (h6 i x hx).ext e⟩
      | succ k =>
        obtain ⟨g, ks, h1, h2, h3⟩ := (isH_trie hl).1 h
        exact (isH_trie hl).2 ⟨g, ks, h1, e.get h2, fun i hi => IsH.ext e (h3 i hi)⟩
theorem getA_right {A : Ar} {r : Int} {x : Node} (h : getA A r = some x) : rightR r = true := by
  have h2 := (getA_rng h).1
  refine Classical.byContradiction fun e => ?_
  rw [placeR_not (fun hn : nodeR r => e hn.2)] at h2
  omega
theorem getA_z (A : Ar) : getA A 0 = none := getA_neg (.inl (by decide))
theorem getA_nz {A : Ar} {r : Int} {x : Node} (h : getA A r = some x) : ¬ r = 0 := fun e => by rw [e, getA_z] at h; cases h
/-- what a node tells of its keys -/
def szH (A : Ar) (r : Int) : Int := if (getN A r).kind = 3 then 1 else (getN A r).s
theorem szH_z (A : Ar) : szH A 0 = 0 := by unfold szH getN; rw [getA_z]; rfl
theorem lfA.right {A : Ar} {r : Int} {x : It} (h : lfA A r x) : rightR r = true := by obtain ⟨g, h⟩ := h; exact getA_right h
theorem lfA.nz {A : Ar} {r : Int} {x : It} (h : lfA A r x) : ¬ r = 0 := by obtain ⟨g, h⟩ := h; exact getA_nz h
theorem lfA.getN {A : Ar} {r : Int} {x : It} (h : lfA A r x) : ∃ g, getN A r = hN 3 g x.k x.v 0 [] := by obtain ⟨g, h⟩ := h; exact ⟨g, getN_yes h⟩
theorem lfA.size {A : Ar} {r : Int} {x : It} (h : lfA A r x) : szH A r = 1 := by obtain ⟨g, h⟩ := h.getN; unfold szH; rw [h]; rfl
theorem IsH.node {A : Ar} {k : Nat} {r : Int} {l : List It} (hl : 2 ≤ l.length) (h : IsH A k r l) : ∃ kd g ks, (kd = 2 ∧ k ≠ 0 ∨ kd = 4 ∧ k = 0) ∧ getA A r = some (hN kd g 0 0 l.length ks) := by
  cases k with
  | zero =>
    obtain ⟨g, ks, q, h1, h2, h3, h4, h5, h6⟩ := (isH_clash hl).1 h
    exact ⟨4, g, ks, .inr ⟨rfl, rfl⟩, by rw [← h1.length_eq]; exact h5⟩
  | succ k =>
    obtain ⟨g, ks, h1, h2, h3⟩ := (isH_trie hl).1 h
    exact ⟨2, g, ks, .inl ⟨rfl, by omega⟩, h2⟩
theorem IsH.right {A : Ar} {k : Nat} {r : Int} {l : List It} (h : IsH A k r l) : rightR r = true := by
  rcases row_cases l with rfl | ⟨x, rfl⟩ | hl
  · rw [isH_nil.1 h]; exact (rightR_iff 0).2 (.inl rfl)
  · exact (isH_one.1 h).right
  · obtain ⟨_, _, _, _, h⟩ := h.node hl; exact getA_right h
theorem IsH.size {A : Ar} {k : Nat} {r : Int} {l : List It} (h : IsH A k r l) : szH A r = l.length := by
  rcases row_cases l with rfl | ⟨x, rfl⟩ | hl
  · rw [isH_nil.1 h]; exact szH_z A
  · exact (isH_one.1 h).size
  · obtain ⟨kd, g, ks, hk, h⟩ := h.node hl
    unfold szH
    rw [getN_yes h]
    rcases hk with ⟨rfl, _⟩ | ⟨rfl, _⟩ <;> rfl
theorem IsH.zero {A : Ar} {k : Nat} {r : Int} {l : List It} (h : IsH A k r l) : r = 0 ↔ l = [] := by
  constructor
  · intro e
    have h2 := h.size
    rw [e, szH_z] at h2
    exact List.eq_nil_of_length_eq_zero (by omega)
  · rintro rfl; exact isH_nil.1 h
theorem part_perm (lv : Nat) : ∀ l : List It, (ofL lv 0 l ++ (ofL lv 1 l ++ (ofL lv 2 l ++ ofL lv 3 l))).Perm l
  | [] => List.Perm.refl _
  | x :: l => by
    have ih := part_perm lv l
    have hd := dig_lt x.k lv
    have e : ∀ i, ofL lv i (x :: l) = if dig x.k lv = i then x :: ofL lv i l else ofL lv i l := fun i => by
      unfold ofL; rw [List.filter_cons]; by_cases q : dig x.k lv = i
      · rw [if_pos (by simpa using q), if_pos q]
      · rw [if_neg (by simpa using q), if_neg q]
    rcases (show dig x.k lv = 0 ∨ dig x.k lv = 1 ∨ dig x.k lv = 2 ∨ dig x.k lv = 3 by omega) with q | q | q | q <;> rw [e, e, e, e, q] <;> simp only [if_true, Nat.zero_ne_one, if_false, show (0 : Nat) ≠ 2 by decide, show (0 : Nat) ≠ 3 by decide, show (1 : Nat) ≠ 0 by decide, show (1 : Nat) ≠ 2 by decide, show (1 : Nat) ≠ 3 by decide, show (2 : Nat) ≠ 0 by decide, show (2 : Nat) ≠ 1 by decide, show (2 : Nat) ≠ 3 by decide, show (3 : Nat) ≠ 0 by decide, show (3 : Nat) ≠ 1 by decide, show (3 : Nat) ≠ 2 by decide]
    · exact List.Perm.cons x ih
    · exact (List.perm_middle).trans (List.Perm.cons x ih)
    · rw [← List.append_assoc]
      refine (List.perm_middle).trans (List.Perm.cons x ?_)
      rw [List.append_assoc]; exact ih
    · rw [← List.append_assoc, ← List.append_assoc]
      refine (List.perm_middle).trans (List.Perm.cons x ?_)
      rw [List.append_assoc, List.append_assoc]; exact ih
theorem part_len (lv : Nat) (l : List It) : (ofL lv 0 l).length + (ofL lv 1 l).length + (ofL lv 2 l).length + (ofL lv 3 l).length = l.length := by
  have := (part_perm lv l).length_eq
  simp only [List.length_append] at this
  omega
/-- the hashes' low digits are alike -/
def Fam (lv d : Nat) (l : List It) : Prop := ∀ x ∈ l, hashOf x.k % 4 ^ lv = d
theorem fam_0 (l : List It) : Fam 0 0 l := fun x _ => by rw [Nat.pow_zero, Nat.mod_one]
theorem hash_succ (key : Int) (lv : Nat) : hashOf key % 4 ^ (lv + 1) = hashOf key % 4 ^ lv + 4 ^ lv * dig key lv := by
  rw [Nat.pow_succ]; exact Nat.mod_mul
theorem Fam.lt {lv d : Nat} {l : List It} (h : Fam lv d l) {x : It} (hx : x ∈ l) : d < 4 ^ lv := by rw [← h x hx]; exact Nat.mod_lt _ (Nat.pow_pos (by decide))
theorem Fam.of {lv d i : Nat} {l : List It} (h : Fam lv d l) : Fam (lv + 1) (d + 4 ^ lv * i) (ofL lv i l) := by
  intro x hx
  obtain ⟨h1, h2⟩ := ofL_mem.1 hx
  rw [hash_succ, h x h1, h2]
theorem Fam.back {lv d i : Nat} {l : List It} (hd : d < 4 ^ lv) (hi : i < 4) (h : Fam (lv + 1) (d + 4 ^ lv * i) l) : Fam lv d l ∧ ∀ x ∈ l, dig x.k lv = i := by
  have hp : 0 < 4 ^ lv := Nat.pow_pos (by decide)
  have key : ∀ x ∈ l, hashOf x.k % 4 ^ lv = d ∧ dig x.k lv = i := fun x hx => by
    have h1 := h x hx
    rw [hash_succ] at h1
    have h2 : hashOf x.k % 4 ^ lv < 4 ^ lv := Nat.mod_lt _ hp
    have e1 : (hashOf x.k % 4 ^ lv + 4 ^ lv * dig x.k lv) / 4 ^ lv = dig x.k lv := by rw [Nat.add_mul_div_left _ _ hp, Nat.div_eq_of_lt h2, Nat.zero_add]
    have e2 : (d + 4 ^ lv * i) / 4 ^ lv = i := by rw [Nat.add_mul_div_left _ _ hp, Nat.div_eq_of_lt hd, Nat.zero_add]
    rw [h1, e2] at e1
    rw [← e1] at h1
    exact ⟨by omega, e1.symm⟩
  exact ⟨fun x hx => (key x hx).1, fun x hx => (key x hx).2⟩
theorem Fam.nil (lv d : Nat) : Fam lv d [] := fun x hx => by cases hx
theorem Fam.filter {lv d : Nat} {l : List It} (h : Fam lv d l) (p : It → Bool) : Fam lv d (l.filter p) := fun x hx => h x (List.mem_filter.1 hx).1
theorem Fam.perm {lv d : Nat} {l m : List It} (h : Fam lv d l) (p : m.Perm l) : Fam lv d m := fun x hx => h x (p.mem_iff.1 hx)
theorem hash_shr (key : Int) (lv : Nat) (h : lv ≤ 10) : Value.int .i64 ((hashOf key : Int).fdiv (2 ^ min (Int.toNat ((2 * lv : Nat) : Int)) IntKind.i64.bits)) = .int .i64 ((hashOf key / 4 ^ lv : Nat) : Int) := by
  congr 1
  rw [show min (Int.toNat ((2 * lv : Nat) : Int)) IntKind.i64.bits = 2 * lv by simp [IntKind.bits]; omega]
  have h2 : ((2 : Int) ^ (2 * lv)) = ((4 ^ lv : Nat) : Int) := by rw [Int.natCast_pow, Int.pow_mul]; rfl
  rw [Int.fdiv_eq_ediv_of_nonneg _ (by rw [h2]; exact Int.natCast_nonneg _), h2, Int.natCast_ediv]
theorem and_3 (n : Nat) : Value.int .i64 (IntKind.i64.wrap ((BitVec.ofInt 64 (n : Int) &&& BitVec.ofInt 64 3).toNat : Int)) = .int .i64 ((n % 4 : Nat) : Int) := by
  congr 1
  have h : (BitVec.ofInt 64 (n : Int) &&& BitVec.ofInt 64 3).toNat = n % 4 := by
    rw [BitVec.toNat_and, BitVec.ofInt_natCast, BitVec.toNat_ofNat]
    show n % 2 ^ 64 &&& 2 ^ 2 - 1 = n % 4
    rw [Nat.and_two_pow_sub_one_eq_mod]
    omega
  rw [h, IntKind.wrap_i64]
  omega
end Go.Proofs.Ytbfjobmebkhblaa
set_option linter.unusedVariables false
set_option linter.unusedSimpArgs false
namespace Go.Proofs.Ytbfjobmebkhblaa
open Go Go.XL
theorem splice_eq (vs cs : List Value) (o : Nat) (h : o + vs.length ≤ cs.length) : splice cs o vs = cs.take o ++ vs ++ cs.drop (o + vs.length) := by
  refine List.ext_getElem? (fun k => ?_)
  rw [splice_get]
  have h1 : (cs.take o).length = o := by rw [List.length_take]; omega
  have h2 : (cs.take o ++ vs).length = o + vs.length := by rw [List.length_append, h1]
  by_cases q : k < o
  · rw [if_pos (by omega), if_neg (by omega), List.getElem?_append_left (by omega), List.getElem?_append_left (by omega), List.getElem?_take_of_lt q]
  · by_cases q2 : k < o + vs.length
    · rw [if_pos (by omega), if_pos ⟨by omega, q2⟩, List.getElem?_append_left (by omega), List.getElem?_append_right (by omega), h1]
    · rw [List.getElem?_append_right (by omega), h2, List.getElem?_drop]
      by_cases q3 : k < cs.length
      · rw [if_pos q3, if_neg (by omega), show o + vs.length + (k - (o + vs.length)) = k by omega]
      · rw [if_neg q3, List.getElem?_eq_none (by omega)]
theorem flat_take {s : Nat} {R : List (List Value)} (h : ∀ r ∈ R, r.length = s) (o : Nat) (ho : o ≤ R.length) : (R.take o).flatten = R.flatten.take (o * s) ∧ (R.drop o).flatten = R.flatten.drop (o * s) := by
  have hl : (R.take o).flatten.length = o * s := by
    rw [flat_len _ (fun r hr => h r (List.mem_of_mem_take hr)), List.length_take, Nat.min_eq_left ho]
  have e : R.flatten = (R.take o).flatten ++ (R.drop o).flatten := by rw [← List.flatten_append, List.take_append_drop]
  rw [e, ← hl]
  exact ⟨List.take_left.symm, List.drop_left.symm⟩
/-- rows put in the place of others -/
def blit (R : List (List Value)) (o : Nat) (l : List (List Value)) : List (List Value) := R.take o ++ l ++ R.drop (o + l.length)
theorem blit_len {R l : List (List Value)} {o : Nat} (h : o + l.length ≤ R.length) : (blit R o l).length = R.length := by
  unfold blit; rw [List.length_append, List.length_append, List.length_take, List.length_drop]; omega
theorem blit_rows {s : Nat} {R l : List (List Value)} {o : Nat} (hR : ∀ r ∈ R, r.length = s) (hl : ∀ r ∈ l, r.length = s) : ∀ r ∈ blit R o l, r.length = s := by
  intro r hr
  unfold blit at hr
  rcases List.mem_append.1 hr with hr | hr
  · rcases List.mem_append.1 hr with hr | hr
    · exact hR r (List.mem_of_mem_take hr)
    · exact hl r hr
  · exact hR r (List.mem_of_mem_drop hr)
theorem blit_take {R l : List (List Value)} {o : Nat} (h : o + l.length ≤ R.length) : (blit R o l).take o = R.take o ∧ (blit R o l).take (o + l.length) = R.take o ++ l := by
  unfold blit
  have h1 : (R.take o).length = o := by rw [List.length_take]; omega
  have h2 : (R.take o ++ l).length = o + l.length := by rw [List.length_append, h1]
  constructor
  · rw [List.append_assoc, List.take_append_of_le_length (by omega), List.take_of_length_le (by omega)]
  · rw [List.take_append_of_le_length (by omega), List.take_of_length_le (by omega)]
theorem Has.slN {w : World} {b : Nat} {e : TypeId} {s : Nat} {R : List (List Value)} (h : Has w b R.flatten e) (hR : ∀ r ∈ R, r.length = s) (k : Nat) : Sl w (some ⟨b, 0, none⟩) s (R.take k) := (h.sl0 hR).take k
theorem sl_at {g lo cap m c s : Nat} (h : ¬ cap = lo) : Value.slice (if cap = lo then some ⟨g, 0, none⟩ else (some ⟨g, 0, none⟩ : Option Addr).map (·.add (lo * s))) m c = .slice (some ⟨g, lo * s, none⟩) m c := by
  rw [if_neg h]; simp [Addr.add_lit]
theorem sl_drop_at {w : World} {g s : Nat} {R : List (List Value)} (h : Sl w (some ⟨g, 0, none⟩) s R) (i : Nat) : Sl w (some ⟨g, i * s, none⟩) s (R.drop i) := by
  refine ⟨fun _ => rfl, fun j r hr => ?_⟩
  rw [List.getElem?_drop] at hr
  have := h.row (i + j) r hr
  simp only [Option.getD_some, Addr.add_lit] at this ⊢
  rw [← Nat.add_mul]
  simpa using this
theorem splice_blit {s : Nat} {R l : List (List Value)} {o : Nat} (hR : ∀ r ∈ R, r.length = s) (hl : ∀ r ∈ l, r.length = s) (h : o + l.length ≤ R.length) : splice R.flatten (o * s) l.flatten = (blit R o l).flatten := by
  have e1 := flat_len R hR
  have e2 := flat_len l hl
  have e3 : (o + l.length) * s ≤ R.length * s := Nat.mul_le_mul_right _ h
  rw [splice_eq _ _ _ (by rw [e1, e2, ← Nat.add_mul]; exact e3)]
  unfold blit
  rw [List.flatten_append, List.flatten_append, (flat_take hR o (by omega)).1, (flat_take hR (o + l.length) h).2, e2, ← Nat.add_mul]
theorem Sl.flatRow {w : World} {ad : Addr} {s : Nat} {l : List (List Value)} (hs' : 0 < s) (hll : ∀ r ∈ l, r.length = s) (hsl : Sl w (some ad) s l) : Row w ad l.flatten := by
  intro j u hj
  have hjl : j < l.length * s := by
    rw [← flat_len l hll]
    rcases Nat.lt_or_ge j l.flatten.length with q | q
    · exact q
    · rw [List.getElem?_eq_none q] at hj; cases hj
  have hd' : j / s < l.length := (Nat.div_lt_iff_lt_mul hs').2 hjl
  have hmod : j % s < s := Nat.mod_lt _ hs'
  have ej : j = (j / s) * s + j % s := by rw [Nat.mul_comm]; exact (Nat.div_add_mod j s).symm
  obtain ⟨r, hr⟩ : ∃ r, l[j / s]? = some r := ⟨_, List.getElem?_eq_getElem hd'⟩
  have hf := flat_get l hll (j / s) (j % s) r hr hmod
  rw [← ej, hj] at hf
  have hc := hsl.row (j / s) r hr (j % s) u hf.symm
  simp only [Option.getD_some] at hc
  rw [← hc]
  congr 1
  rw [ej]
  obtain ⟨bb, oo, sp⟩ := ad
  unfold Addr.add
  by_cases q1 : (j / s) * s = 0
  · rw [← ej]
    by_cases q2 : j % s = 0
    · rw [if_pos (by omega), if_pos q1, if_pos q2]
    · rw [if_neg (by omega), if_pos q1, if_neg q2]; simp only; congr 2; omega
  · rw [← ej]
    by_cases q2 : j % s = 0
    · rw [if_neg (by omega), if_neg q1, if_pos q2]; congr 1; omega
    · rw [if_neg (by omega), if_neg q1, if_neg q2]; simp only; congr 1; omega
theorem plain_flat {l : List (List Value)} (hp : l.all (fun r => r.all plainV) = true) : l.flatten.all plainV = true := by
  rw [List.all_eq_true]
  intro u hu
  obtain ⟨r, hr, hur⟩ := List.mem_flatten.1 hu
  exact List.all_eq_true.1 (List.all_eq_true.1 hp r hr) u hur
section
variable {P : Program} {n : Cx} {F : List (Nat × Value)} {w : World} {p : Post} {ops : Array Oper} {rest : List Oper} {d : Option Tmp} {t : TypeId} {pos : String} {af : Array Edge} {g : Option (Nat × Bool)}
theorem run_copyB {ty ty2 t : TypeId} {b o m c : Nat} {sa : Option Addr} {k c2 e s by_ e0 : Nat} {R l : List (List Value)} (ht : sliceOf P ty = some (e, s, by_)) (hs' : 0 < s) (hb : Has w b R.flatten e0) (hR : ∀ r ∈ R, r.length = s) (ho : o + min k m ≤ R.length) (hs : Sl w sa s l) (hk : k = l.length) (hl : ∀ r ∈ l, r.length = s) (hp : (l.take (min k m)).all (fun r => r.all plainV) = true) :
    ∃ w', (Builtin.copy_ #[ty, ty2] t #[.slice (some ⟨b, o * s, none⟩) m c, .slice sa k c2]).run P w = .ok (.int .i64 (min k m : Nat)) w' ∧ Has w' b (blit R o (l.take (min k m))).flatten e0 ∧ Agr (· = b) w w' ∧ w'.heap.size = w.heap.size := by
  obtain ⟨h1, i, h2, h3, h4⟩ := sliceOf_spec ht
  have hl' : ∀ r ∈ l.take (min k m), r.length = s := fun r hr => hl r (List.mem_of_mem_take hr)
  have hpl : (l.take (min k m)).flatten.all plainV = true := plain_flat hp
  have hlen : (l.take (min k m)).length = min k m := by rw [List.length_take]; omega
  have hfl : (l.take (min k m)).flatten.length = min k m * s := by rw [flat_len _ hl', hlen]
  have hcells : (Builtin.firstCells i.size (min k m) (.slice sa k c2)).run P w = .ok (l.take (min k m)).flatten.toArray w := by
    cases sa with
    | none =>
      have : l = [] := Classical.byContradiction fun e => by have := hs.some e; simp at this
      subst this
      simp [Builtin.firstCells, pure]
    | some a =>
      have hr := XL.run_loadCells (P := P) (Sl.flatRow hs' hl' (hs.take (min k m)))
      rw [hfl] at hr
      rw [h3]; exact hr
  have hfit : o * s + 0 + (l.take (min k m)).flatten.length ≤ R.flatten.length := by
    rw [hfl, flat_len R hR, Nat.add_zero, ← Nat.add_mul]; exact Nat.mul_le_mul_right _ ho
  obtain ⟨w', g1, g2, g3, g4⟩ := XL.run_storeCells (P := P) (o := o * s) (l.take (min k m)).flatten 0 R.flatten w hb hfit hpl
  refine ⟨w', ?_, ?_, g3, g4⟩
  · have hcells' : (Builtin.firstCells i.size (Nat.min k m) (.slice sa k c2)).run P w = .ok (l.take (min k m)).flatten.toArray w := hcells
    simp [Builtin.copy_, Go.run_underlying h1, sizeOf, typeInfo, h2, Builtin.lenOf, hcells', g1, goInt]
  · rw [Nat.add_zero, splice_blit hR hl' (by rw [hlen]; exact ho)] at g2
    exact g2
theorem RL.copyB {ty ty2 x y b o m c sa k c2 e s by_ e0 R l} (ht : sliceOf P ty = some (e, s, by_)) (hs' : Nat.blt 0 s = true) (hx : XL.ev F x = some (.slice (some ⟨b, o * s, none⟩) m c)) (hy : XL.ev F y = some (.slice sa k c2)) (hb : Has w b R.flatten e0) (hR : ∀ r ∈ R, r.length = s) (ho : o + min k m ≤ R.length) (hs : Sl w sa s l) (hk : k = l.length) (hl : ∀ r ∈ l, r.length = s) (hp : (l.take (min k m)).all (fun r => r.all plainV) = true)
    (hg : gsat ops F g = some true) (hd : inB d n = true)
    (h : ∀ w', w'.heap.size = w.heap.size → Has w' b (blit R o (l.take (min k m))).flatten e0 → Agr (· = b) w w' → RL P n ops rest (upd F d (.int .i64 (min k m : Nat))) w' p) : RL P n ops (⟨d, .call ⟨.builtin .copy, #[x, y], #[ty, ty2]⟩, t, pos, af, g⟩ :: rest) F w p := by
  obtain ⟨w', g1, g2, g3, g4⟩ := run_copyB (ty2 := ty2) (t := t) (m := m) (c := c) (c2 := c2) ht (by simpa using hs') hb hR ho hs hk hl hp
  refine RL.on hg hd (fun ρ hρ => ?_) (h w' g4 g2 g3)
  simp only [execOp, resolve, hρ y _ hy, hρ x _ hx, bind, Sem.bind, pure, invoke, builtin, List.map_toArray, List.map_cons, List.map_nil]
  have := run_bind (P := P) (Builtin.copy_ #[ty, ty2] t #[.slice (some ⟨b, o * s, none⟩) m c, .slice sa k c2]) (fun v => (Sem.pure (Next.value v) : Sem Next)) w
  rw [g1] at this
  exact this
theorem firstCells_sl {w : World} {sa : Option Addr} {k c2 s : Nat} {l : List (List Value)} (hs' : 0 < s) (hs : Sl w sa s l) (hl : ∀ r ∈ l, r.length = s) (m : Nat) (hm : m ≤ l.length) : (Builtin.firstCells s m (.slice sa k c2)).run P w = .ok (l.take m).flatten.toArray w := by
  have hl' : ∀ r ∈ l.take m, r.length = s := fun r hr => hl r (List.mem_of_mem_take hr)
  have hfl : (l.take m).flatten.length = m * s := by rw [flat_len _ hl', List.length_take, Nat.min_eq_left hm]
  cases sa with
  | none =>
    have : l = [] := Classical.byContradiction fun e => by have := hs.some e; simp at this
    subst this
    simp [Builtin.firstCells, pure]
  | some a =>
    have hr := XL.run_loadCells (P := P) (Sl.flatRow hs' hl' (hs.take m))
    rw [hfl] at hr
    exact hr
theorem RL.clearB {ty x b o m c e s by_ z} {R : List (List Value)} (ht : sliceOf P ty = some (e, s, by_)) (hz : zeroOf P e = some z) (hzs : z.cells.size = s) (hs' : Nat.blt 0 s = true) (hzp : z.cells.toList.all plainV = true) (hx : XL.ev F x = some (.slice (some ⟨b, o * s, none⟩) m c)) (hb : Has w b R.flatten e) (hR : ∀ r ∈ R, r.length = s) (ho : o + m ≤ R.length)
    (hg : gsat ops F g = some true) (hd : inB d n = true)
    (h : ∀ w', w'.heap.size = w.heap.size → Has w' b (blit R o (List.replicate m z.cells.toList)).flatten e → Agr (· = b) w w' → RL P n ops rest (upd F d (.tuple #[])) w' p) : RL P n ops (⟨d, .call ⟨.builtin .clear, #[x], #[ty]⟩, t, pos, af, g⟩ :: rest) F w p := by
  have hs2 : 0 < s := by simpa using hs'
  obtain ⟨h1, i, h2, h3, h4⟩ := sliceOf_spec ht
  obtain ⟨i', hi', hzz⟩ := zeroOf_spec hz
  rw [h2] at hi'; cases hi'
  have hl : ∀ r ∈ List.replicate m z.cells.toList, r.length = s := fun r hr => by rw [(List.mem_replicate.1 hr).2, Array.length_toList, hzs]
  have hfl : (List.replicate m z.cells.toList).flatten.length = m * s := by rw [flat_len _ hl, List.length_replicate]
  have hfit : o * s + 0 + (List.replicate m z.cells.toList).flatten.length ≤ R.flatten.length := by
    rw [hfl, flat_len R hR, Nat.add_zero, ← Nat.add_mul]; exact Nat.mul_le_mul_right _ ho
  have hpl : (List.replicate m z.cells.toList).flatten.all plainV = true := plain_flat (by rw [List.all_eq_true]; intro r hr; rw [(List.mem_replicate.1 hr).2]; exact hzp)
  obtain ⟨w', g1, g2, g3, g4⟩ := XL.run_storeCells (P := P) (o := o * s) (List.replicate m z.cells.toList).flatten 0 R.flatten w hb hfit hpl
  have g2 : Has w' b (blit R o (List.replicate m z.cells.toList)).flatten e := by rw [Nat.add_zero, splice_blit hR hl (by rw [List.length_replicate]; exact ho)] at g2; exact g2
  have hzc : Builtin.zeroCells z.cells m = (List.replicate m z.cells.toList).flatten.toArray := by
    unfold Builtin.zeroCells
    exact zeros_list z.cells (by omega) m
  have fin : ∀ w'', (Builtin.clear_ #[ty] t #[.slice (some ⟨b, o * s, none⟩) m c]).run P w = .ok (.tuple #[]) w'' → RL P n ops rest (upd F d (.tuple #[])) w'' p → RL P n ops (⟨d, .call ⟨.builtin .clear, #[x], #[ty]⟩, t, pos, af, g⟩ :: rest) F w p := by
    intro w'' hr hw
    refine RL.on hg hd (fun ρ hρ => ?_) hw
    simp only [execOp, resolve, hρ x _ hx, bind, Sem.bind, pure, invoke, builtin, List.map_toArray, List.map_cons, List.map_nil]
    have := run_bind (P := P) (Builtin.clear_ #[ty] t #[.slice (some ⟨b, o * s, none⟩) m c]) (fun v => (Sem.pure (Next.value v) : Sem Next)) w
    rw [hr] at this
    exact this
  cases m with
  | zero =>
    refine fin w (by simp [Builtin.clear_, Go.run_underlying h1]) (h w rfl ?_ (Agr.refl _ _))
    simpa [blit] using hb
  | succ m =>
    exact fin w' (by simp [Builtin.clear_, Go.run_underlying h1, zeroValue, typeInfo, h2, hzz, hzc, g1]) (h w' g4 g2 g3)
theorem RL.appendZ {ty tn x y b o c k e s by_ z kq kn} {R : List (List Value)} (ht : sliceOf P ty = some (e, s, by_)) (htn : P.underlying tn = some (.int kn)) (hz : zeroOf P e = some z) (hzs : z.cells.size = s) (hs' : Nat.blt 0 s = true) (hy : XL.ev F y = some (.slice (some ⟨b, 0, none⟩) o c)) (hx : XL.ev F x = some (.int kq (k : Nat))) (hb : Has w b R.flatten e) (hR : ∀ r ∈ R, r.length = s) (hk : 0 < k) (hoc : c < o + k) (ho : o ≤ R.length)
    (hlen : (o + k) * by_ ≤ 140737488355328) (hlen' : o + k ≤ 140737488355328) (hg : gsat ops F g = some true) (hd : inB d n = true)
    (h : ∀ b' w' cap ex, b' = w.heap.size → o + k ≤ cap → Has w' b' (R.take o ++ List.replicate k z.cells.toList ++ List.replicate ex z.cells.toList).flatten e → cap = o + k + ex → Sub w w' → RL P n ops rest (upd F d (.slice (some ⟨b', 0, none⟩) (o + k) cap)) w' p) : RL P n ops (⟨d, .call ⟨.builtin .append, #[y, x], #[ty, tn]⟩, t, pos, af, g⟩ :: rest) F w p := by
  have hs2 : 0 < s := by simpa using hs'
  obtain ⟨h1, i, h2, h3, h4⟩ := sliceOf_spec ht
  obtain ⟨i', hi', hzz⟩ := zeroOf_spec hz
  rw [h2] at hi'; cases hi'
  have hold : (Builtin.firstCells i.size o (.slice (some ⟨b, 0, none⟩) o c)).run P w.drew = .ok (R.take o).flatten.toArray w.drew := by
    have hb' : Has w.drew b R.flatten e := hb
    rw [h3]
    exact firstCells_sl hs2 (hb'.sl0 hR) hR o ho
  have hge := grownCap_ge w (o + k) c e
  have hby : k * by_ ≤ (o + k) * by_ := Nat.mul_le_mul_right _ (by omega)
  have hr := Go.Lib.run_append_grow_zeros (P := P) w ty tn t e i z kq kn h1 htn h2 hzz (some ⟨b, 0, none⟩) o c (R.take o).flatten hold k hk (by omega) hoc (by omega) (by rw [h4]; omega) (growslice_fits (by omega) (by rw [h4]; exact hlen))
  have hzc : ∀ m, Builtin.zeroCells z.cells m = (List.replicate m z.cells.toList).flatten.toArray := fun m => by
    unfold Builtin.zeroCells
    exact zeros_list z.cells (by omega) m
  rw [hzc, hzc] at hr
  refine RL.on hg hd (fun ρ hρ => ?_) (h w.heap.size (w.drew.alloc (.cells ((R.take o).flatten.toArray ++ (List.replicate k z.cells.toList).flatten.toArray ++ (List.replicate (grownCap w (o + k) c e - (o + k)) z.cells.toList).flatten.toArray) e)) (grownCap w (o + k) c e) (grownCap w (o + k) c e - (o + k)) rfl hge ?_ (by omega) ⟨rfl, rfl, rfl, by simp, fun k hk => heap_alloc_old' w.drew _ hk⟩)
  · simp only [execOp, resolve, hρ y _ hy, hρ x _ hx, bind, Sem.bind, pure, invoke, builtin, List.map_toArray, List.map_cons, List.map_nil]
    have := run_bind (P := P) (Builtin.append_ #[ty, tn] t #[.slice (some ⟨b, 0, none⟩) o c, .int kq (k : Nat)]) (fun v => (Sem.pure (Next.value v) : Sem Next)) w
    rw [hr] at this
    exact this
  · have := heap_alloc_new w.drew (.cells ((R.take o).flatten.toArray ++ (List.replicate k z.cells.toList).flatten.toArray ++ (List.replicate (grownCap w (o + k) c e - (o + k)) z.cells.toList).flatten.toArray) e)
    unfold Has
    simp only [List.flatten_append]
    simpa using this
/-- two slices of two blocks do not overlap -/
theorem RL.overlapsF {f : FuncId} {fn : Func} {x y : Operand} {ts : Array TypeId} {tS tR e1 : TypeId} {a b : Addr} {la ca lb cb s by_ : Nat} {xs ys : List Value} {ea eb : TypeId} (hf : P.funcs[f]? = some fn) (hname : (fn.name == "runtime.NumGoroutine") = false) (hbd : fn.body.isNone = true) (hn : Extern.findNext fn = none) (he : Extern.find fn = some (Extern.SlicesOverlaps.overlaps #[tS, tS] #[tR]))
    (ht : sliceOf P tS = some (e1, s, by_)) (hx : XL.ev F x = some (.slice (some a) la ca)) (hy : XL.ev F y = some (.slice (some b) lb cb)) (ha : Has w a.block xs ea) (hb : Has w b.block ys eb) (hne : a.block ≠ b.block) (hys : ys ≠ [])
    (hg : gsat ops F g = some true) (hd : inB d n = true) (h : RL P n ops rest (upd F d (.bool false)) w p) : RL P n ops (⟨d, .call ⟨.value (.func f), #[x, y], ts⟩, t, pos, af, g⟩ :: rest) F w p := by
  obtain ⟨h1, i, h2, h3, h4⟩ := sliceOf_spec ht
  refine RL.on hg hd (v := .bool false) (w' := w) (fun ρ hρ => ?_) h
  have h0 : ρ (.func f) = .func (.func f) #[] #[] := hρ _ _ rfl
  simp only [execOp, resolve, h0, hρ x _ hx, hρ y _ hy, Deferred.ofValue, bind, Sem.bind, pure, invoke, List.map_toArray, List.map_cons, List.map_nil]
  have hsh : ∀ {k cs e}, Has w k cs e → w.shape? k = some (e, cs.length) := fun {k cs e} h => by
    unfold Has at h; simp [World.shape?, h]
  have ho := Go.Lib.run_overlaps_apart (P := P) w tS tR e1 h1 i.size (fun w => by simp [sizeOf, typeInfo, h2]) a b la ca lb cb hne ea eb xs.length ys.length (hsh ha) (hsh hb) (by cases ys with | nil => exact absurd rfl hys | cons _ _ => simp) ha.free ha.free
  have := run_callFunc_extern (P := P) hf hname hbd hn he #[.slice (some a) la ca, .slice (some b) lb cb] w
  rw [ho] at this
  simpa using this
/-- the block of an owned row, in rows -/
theorem chunks {s : Nat} : ∀ (k : Nat) (l : List Value), l.length = k * s → ∃ R : List (List Value), R.length = k ∧ (∀ r ∈ R, r.length = s) ∧ R.flatten = l
  | 0, l, h => ⟨[], rfl, by simp, by rw [Nat.zero_mul] at h; rw [List.eq_nil_of_length_eq_zero h]; rfl⟩
  | k + 1, l, h => by
    have h2 : (l.drop s).length = k * s := by rw [List.length_drop, h, Nat.succ_mul]; omega
    obtain ⟨R, r1, r2, r3⟩ := chunks k (l.drop s) h2
    refine ⟨l.take s :: R, by rw [List.length_cons, r1], fun r hr => ?_, by rw [List.flatten_cons, r3, List.take_append_drop]⟩
    rcases List.mem_cons.1 hr with rfl | hr
    · rw [List.length_take, h, Nat.succ_mul]; omega
    · exact r2 r hr
theorem _root_.Go.XL.Ows.whole {base : Nat} {e : TypeId} {s : Nat} {v : Value} {rows : List (List Value)} (h : Ows base w e s v rows) :
    (v = .slice none 0 0 ∧ rows = []) ∨ ∃ g ex, v = .slice (some ⟨g, 0, none⟩) rows.length (rows.length + ex.length) ∧ base ≤ g ∧ Has w g (rows ++ ex).flatten e ∧ (∀ r ∈ ex, r.length = s) ∧ rows.length + ex.length ≤ maxLen := by
  rcases h.own.2 with ⟨rfl, h0⟩ | ⟨g, cap, cur, rfl, hbg, hgh, hnc, hcm, hcs, htake⟩
  · exact .inl ⟨rfl, List.eq_nil_of_length_eq_zero h0⟩
  · obtain ⟨R, r1, r2, r3⟩ := chunks (s := s) (cap - rows.length) (cur.toList.drop (rows.length * s)) (by rw [List.length_drop, Array.length_toList, hcs, Nat.sub_mul])
    have e1 : rows.length + R.length = cap := by omega
    refine .inr ⟨g, R, by rw [e1], hbg, ?_, r2, by omega⟩
    unfold Has
    rw [List.flatten_append, r3, ← htake, List.take_append_drop]
    simpa using hgh
end
end Go.Proofs.Ytbfjobmebkhblaa
set_option linter.unusedVariables false
set_option linter.unusedSimpArgs false
namespace Go.Proofs.Ytbfjobmebkhblaa
open Go Go.XL
/-- a loop's record lies in the heap -/
def Lp (l : Nat) (r : Loop) (w : World) : Prop := w.heap[l]? = some (.loop r)
theorem Lp.lt {l r w} (h : Lp l r w) : l < w.heap.size := by
  unfold Lp at h
  rcases Nat.lt_or_ge l w.heap.size with q | q
  · exact q
  · rw [Array.getElem?_eq_none q] at h; cases h
theorem Lp.step {N : Nat → Prop} {l r w w'} (h : Lp l r w) (k : Agr N w w') (hn : ¬ N l) : Lp l r w' := (k.block l h.lt hn).trans h
theorem Lp.sub {l r w w'} (h : Lp l r w) (s : Sub w w') : Lp l r w' := (s.block l h.lt).trans h
theorem Lp.upd {l r w w' b} (h : Lp l r w) (a : Agr (· = b) w w') (hn : l ≠ b) : Lp l r w' := h.step a hn
theorem Lp.ne {l r w b} (h : Lp l r w) (hb : b = w.heap.size) : l ≠ b := fun e => by have := h.lt; omega
theorem Lp.put {l r r' w} (h : Lp l r w) : Lp l r' (w.putObj l (.loop r')) := World.putObj_heap_same h.lt
theorem agr_put {l : Nat} {o : Obj} {w : World} : Agr (· = l) w (w.putObj l o) := ⟨rfl, rfl, rfl, by simp, fun k _ hn => World.putObj_heap_other hn⟩

section
variable {P : Program} {n : Cx} {F : (List (Nat × Value))} {w : World} {p : Post} {ops : Array Oper} {rest : List Oper} {d : Option Tmp} {t : TypeId} {pos : String} {af : Array Edge} {g : Option (Nat × Bool)}
/-- what a call of yield comes to -/
def FY (P : Program) (l : Nat) (args : List Value) (w : World) (R : Value → World → Prop) : Prop :=
  ∃ r : Loop, Lp l r w ∧ args.length = r.params.size ∧ RoundIn Fence.wide 0 P l r.fn ((r.params.zip args.toArray).foldl (fun tmps (t, a) => tmps.setIfInBounds t a) r.tmps) r.assign r.body w (fun e w' => ∃ v, e = .returned v ∧ R v w')
theorem FY.mono {l : Nat} {args : List Value} {R R' : Value → World → Prop} (h : FY P l args w R) (hr : ∀ v w', R v w' → R' v w') : FY P l args w R' := by
  obtain ⟨r, h1, h2, h3⟩ := h
  exact ⟨r, h1, h2, h3.mono fun e w' ⟨v, e1, e2⟩ => ⟨v, e1, hr v w' e2⟩⟩
theorem RL.yield {l : Nat} {y : Operand} {xs : List Operand} {vs : List Value} {ts : Array TypeId} (hy : XL.ev F y = some (.func (.yield l) #[] #[])) (hx : evs F xs = some vs) {R : Value → World → Prop} (hc : FY P l vs w R) (hg : gsat ops F g = some true) (hd : inB d n = true)
    (h : ∀ v w', R v w' → RL P n ops rest (upd F d v) w' p) (hq : n.round = some none := by rfl) : RL P n ops (⟨d, .call ⟨.value y, xs.toArray, ts⟩, t, pos, af, g⟩ :: rest) F w p := by
  intro a k
  obtain ⟨r, h1, h2, h3⟩ := hc
  have he : (execOp a.eval ⟨d, .call ⟨.value y, xs.toArray, ts⟩, t, pos, af, g⟩).run P w = .ok (.round l r.fn ((r.params.zip vs.toArray).foldl (fun tmps (t, a) => tmps.setIfInBounds t a) r.tmps) r.assign r.body) w := by
    have hρ := k.agrees
    simp only [execOp, resolve, hρ y _ hy, Deferred.ofValue, evs_arr hρ hx, bind, Sem.bind, pure, invoke, Array.append_empty, Array.empty_append]
    exact run_yield h1 (by simpa using h2)
  rw [lwp_some hq]
  simp only [wpListIn]
  rw [wanted_of k hg, if_pos rfl]
  refine ⟨fun _ _ => trivial, ?_⟩
  rw [Oper.semAt_eq _ _ _ (not_defer he (fun _ e => by cases e)), he]
  refine ⟨fun e => (by cases e), ?_⟩
  refine RoundIn.mono h3 ?_
  rintro e w' ⟨v, rfl, hR⟩
  have := h v w' hR _ (k.upd d v hd)
  rwa [lwp_some hq] at this

/-- the mark of a range's block -/
def markD (D : Nat) : Deferred := { target := .collected D, args := #[] }
def endR (l : Nat) (j : Option Code) (R : Value → World → Prop) (a : Act) (w : World) : Prop := ∃ r, Lp l r w ∧ R (.bool j.isNone) (w.putObj l (.loop { r with state := if j.isNone then .ready else .done, pending := j }))
def roundP (l : Nat) (R : Value → World → Prop) (ids : List Nat) : Post := ⟨endR l none R, ids.map fun id => (id, endR l (some (.exit id)) R), endR l (some .ret) R⟩
def assignP (P : Program) (l : Nat) (r : Loop) (R : Value → World → Prop) (m : Nat) (ids : List Nat) : Post :=
  ⟨fun a1 w1 => Lp l r w1 ∧ ∀ w2, Agr (· = l) w1 w2 → w2.heap.size = w1.heap.size → Lp l { r with state := .busy } w2 → cwp ⟨m, some (some l), []⟩ P r.body (roundP l R ids).q a1 w2, [], fun _ _ => False⟩
theorem lookX_ids {l : Nat} {R : Value → World → Prop} {i : Nat} {K : Act → World → Prop} : ∀ {ids : List Nat}, lookX (ids.map fun id => (id, endR l (some (.exit id)) R)) i = some K → K = endR l (some (.exit i)) R
  | [], h => by cases h
  | j :: ids, h => by
    simp only [List.map_cons, lookX_cons] at h
    split at h
    · rename_i e; subst e; exact (Option.some.inj h).symm
    · exact lookX_ids h
theorem FY.intro {l m : Nat} {r : Loop} {args : List Value} {R : Value → World → Prop} {F : List (Nat × Value)} (ids : List Nat) (hl : Lp l r w) (hs : r.state = .ready) (hz : args.length = r.params.size)
    (hk : Knows ⟨m, some (some l), []⟩ F { tmps := (r.params.zip args.toArray).foldl (fun tmps (t, a) => tmps.setIfInBounds t a) r.tmps, defers := [] })
    (h : RC P ⟨m, some (some l), []⟩ r.assign F w (assignP P l r R m ids)) : FY P l args w R := by
  refine ⟨r, hl, hz, roundIn_of_wpIn trivial ?_⟩
  have key := h _ hk
  rw [cwp_some rfl] at key
  refine wpIn_mono key fun e a1 w1 hq => ?_
  cases e with
  | normal =>
    obtain ⟨h1, h2⟩ := hq
    refine ⟨_, run_beginRound h1 hs, ?_⟩
    have h3 := h2 _ agr_put (by simp) h1.put
    rw [cwp_some rfl] at h3
    refine wpIn_mono h3 fun e a w hq => ?_
    cases e with
    | normal =>
      obtain ⟨r', h4, h5⟩ := hq
      exact ⟨_, _, run_endRound none h4, _, rfl, h5⟩
    | ret =>
      obtain ⟨r', h4, h5⟩ := hq
      exact ⟨_, _, run_endRound (some .ret) h4, _, rfl, h5⟩
    | exit i =>
      simp only [Post.q] at hq
      split at hq
      · rename_i K hK
        rw [lookX_ids hK] at hq
        obtain ⟨r', h4, h5⟩ := hq
        exact ⟨_, _, run_endRound (some (.exit i)) h4, _, rfl, h5⟩
      · exact hq.elim
    | goto _ => exact hq.elim
    | panic _ => exact hq.elim
    | outgrown => exact hq.elim
  | exit i =>
    simp only [Post.q, assignP, lookX] at hq
  | ret => exact hq.elim
  | goto _ => exact hq.elim
  | panic _ => exact hq.elim
  | outgrown => exact hq.elim
attribute [irreducible] endR
def Df (D : Nat) (w : World) : Prop := w.heap[D]? = some (.deferred (some []))
theorem RC.range {id m gf : Nat} {g : Operand} {ps : Array Tmp} {assign body : Code} {cs : List Value} {F : List (Nat × Value)} (hg : XL.ev F g = some (.func (.func gf) #[] cs.toArray)) (hf : calleeOK P gf = true)
    (h : ∀ (r : Loop) (W1 : World), r.state = .ready → r.pending = none → r.params = ps → r.assign = assign → r.body = body → Knows ⟨m, some (some (w.heap.size + 1)), []⟩ F { tmps := r.tmps, defers := [] } → Sub w W1 → W1.heap.size = w.heap.size + 2 → Lp (w.heap.size + 1) r W1 → Df w.heap.size W1 →
      FC P gf (.func (.yield (w.heap.size + 1)) #[] #[] :: cs) W1 (fun _ W2 => ∃ r2, Lp (w.heap.size + 1) r2 W2 ∧ r2.state ≠ .busy ∧ ∀ W3, Agr (· = w.heap.size + 1) W2 W3 → W3.heap.size = W2.heap.size →
        ((r2.pending = none ∨ r2.pending = some (.exit id)) ∧ (∀ a, Knows ⟨m, some none, [markD w.heap.size]⟩ F a → p.nrm a W3) ∨ r2.pending = some .ret ∧ ∀ a, Knows ⟨m, some none, [markD w.heap.size]⟩ F a → p.ret a W3))) :
    RC P ⟨m, some none, []⟩ (.block id (.rangeFunc g ps assign body)) F w p := by
  intro a k
  rw [cwp_some rfl]
  refine wpIn_block (wpIn_rangeFunc ?_)
  intro fn _
  obtain ⟨r, hr⟩ : ∃ r : Loop, r = { state := .ready, pending := none, fn, tmps := a.tmps, params := ps, assign, body, defers := w.heap.size } := ⟨_, rfl⟩
  obtain ⟨W1, hW1⟩ : ∃ W1, W1 = (w.alloc (.deferred (some []))).alloc (.loop r) := ⟨_, rfl⟩
  have hL1 : Lp (w.heap.size + 1) r W1 := by
    have := World.alloc_heap_new (w.alloc (.deferred (some []))) (.loop r)
    rw [World.size_alloc] at this
    rw [hW1]; exact this
  have hD1 : Df w.heap.size W1 := by
    rw [hW1]
    have := World.alloc_heap_new w (.deferred (some []))
    unfold Df
    rw [heap_alloc_old' _ _ (by simp)]
    exact this
  have hS1 : Sub w W1 := by
    rw [hW1]
    exact ⟨rfl, rfl, rfl, by simp; omega, fun k hk => by rw [heap_alloc_old' _ _ (by simp; omega), heap_alloc_old' _ _ hk]⟩
  have hz1 : W1.heap.size = w.heap.size + 2 := by rw [hW1]; simp
  have hga : a.eval g = .func (.func gf) #[] cs.toArray := k.agrees _ _ hg
  refine ⟨w.heap.size + 1, [markD w.heap.size], W1, { target := .fn (.func gf) cs.toArray, args := #[.func (.yield (w.heap.size + 1)) #[] #[]] }, W1, gf, #[.func (.yield (w.heap.size + 1)) #[] #[]] ++ cs.toArray, W1, ?_, ?_, fun _ _ => trivial, ?_, fun e => (by cases e), ?_⟩
  · rw [hW1, hr]; exact run_enterLoop_outer _ _ _ _ _
  · simp only [resolve, hga]
    simp [go_sem]
  · simp only [invoke]
    exact run_callFunc hf
  · have hk1 : Knows ⟨m, some (some (w.heap.size + 1)), []⟩ F { tmps := r.tmps, defers := [] } := by
      rw [hr]; exact ⟨k.size, rfl, k.slot⟩
    have hc := h r W1 (by rw [hr]) (by rw [hr]) (by rw [hr]) (by rw [hr]) (by rw [hr]) hk1 hS1 hz1 hL1 hD1
    unfold FC at hc
    rw [List.toArray_cons] at hc
    refine CallsIn.mono (callsIn_wide.2 hc) ?_
    rintro e W2 ⟨v, rfl, r2, h1, h2, h3⟩
    refine ⟨_, _, run_endLoop h1 h2, ?_⟩
    have h4 := h3 (W2.putObj (w.heap.size + 1) (.loop { r2 with state := .exhausted })) agr_put (by simp)
    generalize W2.putObj (w.heap.size + 1) (.loop { r2 with state := .exhausted }) = W3 at h4 ⊢
    have hk3 : Knows ⟨m, some none, [markD w.heap.size]⟩ F { a with defers := [markD w.heap.size] ++ a.defers } := ⟨k.size, by simp [k.defers], k.slot⟩
    rcases h4 with ⟨h4 | h4, h5⟩ | ⟨h4, h5⟩
    · rw [h4]
      exact h5 _ hk3
    · rw [h4]
      refine wpIn_exit ?_
      simp only [Exit.inBlock, if_pos]
      exact h5 _ hk3
    · rw [h4]
      exact wpIn_ret (h5 _ hk3)
theorem Df.lt {D w} (h : Df D w) : D < w.heap.size := by
  unfold Df at h
  rcases Nat.lt_or_ge D w.heap.size with q | q
  · exact q
  · rw [Array.getElem?_eq_none q] at h; cases h
theorem Df.step {N : Nat → Prop} {D w w'} (h : Df D w) (k : Agr N w w') (hn : ¬ N D) : Df D w' := (k.block D h.lt hn).trans h
theorem Df.sub {D w w'} (h : Df D w) (s : Sub w w') : Df D w' := (s.block D h.lt).trans h
theorem Df.upd {D w w' b} (h : Df D w) (a : Agr (· = b) w w') (hn : D ≠ b) : Df D w' := h.step a hn
theorem Df.ne {D w b} (h : Df D w) (hb : b = w.heap.size) : D ≠ b := fun e => by have := h.lt; omega

def Up (C : Nat → Prop) (w : World) (C' : Nat → Prop) : Prop := ∀ k, C' k → C k ∨ w.heap.size ≤ k
theorem Up.refl (C : Nat → Prop) (w : World) : Up C w C := fun _ h => .inl h
theorem Up.le {C C' : Nat → Prop} {w w1 : World} (h : Up C w1 C') (hz : w.heap.size ≤ w1.heap.size) : Up C w C' := fun k hk => (h k hk).imp id (Nat.le_trans hz)
theorem Up.trans {C C1 C2 : Nat → Prop} {w : World} (h : Up C w C1) (k : Up C1 w C2) : Up C w C2 := fun i hi => (k i hi).elim (h i) .inr
theorem Up.not {C C' : Nat → Prop} {w : World} {b : Nat} (h : Up C w C') (hb : b < w.heap.size) (hn : ¬ C b) : ¬ C' b := fun e => (h b e).elim hn (fun e => by omega)
theorem upNe {M M' : Nat → Prop} {w : World} {b : Nat} (h : Up M w M') (d : ∀ k, M k → k ≠ b) (hb : b < w.heap.size) : ∀ k, M' k → k ≠ b := fun k hk e => h.not hb (fun e' => d _ e' rfl) (e ▸ hk)
theorem _root_.Go.XL.Agr.up {C C1 : Nat → Prop} {w w1 w2 : World} (h : Agr C w w1) (u : Up C w C1) (k : Agr C1 w1 w2) : Agr C w w2 :=
  ⟨k.os.trans h.os, k.tape.trans h.tape, k.output.trans h.output, Nat.le_trans h.size k.size, fun i hi hn =>
    (k.block i (Nat.lt_of_lt_of_le hi h.size) (u.not hi hn)).trans (h.block i hi hn)⟩
end
end Go.Proofs.Ytbfjobmebkhblaa
set_option linter.unusedVariables false
set_option linter.unusedSimpArgs false
namespace Go.Proofs.Ytbfjobmebkhblaa
open Go Go.XL
theorem c_digit (key : Int) (lv : Nat) (hlv : lv ≤ 10) (w : World) : FC Try.prog 78 [.int .i64 key, .int .i64 (lv : Int)] w (Val (.int .i64 (dig key lv : Int)) w) := by
  have hh := hashOf_lt key
  refine FC.intro Try.func78 rfl Try.ntmps78 rfl ?_
  have S := Sub.refl w
  refine RC.seq ?_
  refine RC.region rfl ?_
  refine RL.ev (.assign rfl) rfl rfl ?_
  refine RL.nil (RC.back ?_)
  refine RC.seq ?_
  refine RC.region rfl ?_
  refine RL.ev (.move rfl) rfl rfl ?_
  refine RL.call rfl ok43 (c_hash key w) rfl rfl ?_
  rintro _ w1 ⟨rfl, s2⟩
  have S := S.trans s2
  refine RL.ev (.move rfl) rfl rfl ?_
  refine RL.ev (.as (.bin rfl rfl rfl) (wi64 (y := ((2 * lv : Nat) : Int)) (by omega) (by omega))) rfl rfl ?_
  refine RL.ev (.as (v' := .int .i64 ((hashOf key / 4 ^ lv : Nat) : Int)) (.shr rfl rfl (by omega)) (by exact hash_shr key lv hlv)) rfl rfl ?_
  refine RL.ev (.as (v' := .int .i64 (dig key lv : Int)) (.bin rfl rfl rfl) (by exact and_3 _)) rfl rfl ?_
  refine RL.ev (.assign rfl) rfl rfl ?_
  refine RL.nil (RC.back ?_)
  refine RC.done (rs := [.tmp 4]) (vs := [_]) rfl rfl ⟨rfl, trivial⟩ ?_
  -- end 1
  exact ⟨rfl, S⟩
abbrev Ho (b : Nat) (s : St) (C : Nat → Prop) (u : World) : Prop := FoG 108 b s C u
theorem c_hget (b : Nat) (s : St) (C : Nat → Prop) (r : Int) (hr : U64 r) (w : World) (hF : Ft C (Ho b s C) w) :
    FC Try.prog 77 [.pointer (some ⟨b, 0, none⟩), .int .u64 r] w (Val (getN s.1 r).val w) := by
  obtain ⟨hCb, na, fa, nc, fc, M, hbf, hnc, hfc, hA, hMb, hMC⟩ := hF.now
  obtain ⟨e, hgv⟩ := getN_v s.1 r
  have hA := hA.now
  refine FC.intro Try.func77 rfl Try.ntmps77 rfl ?_
  have S := Sub.refl w
  refine RC.seq ?_
  refine RC.region rfl ?_
  refine RL.alloc ze97 rfl rfl (fun b_4 w_4 e_4 z_4 hb_4 s_4 => ?_)
  have ge_4 := S.le e_4
  have n__4 := hbf.ne e_4
  have S := S.trans s_4
  have hbf := hbf.sub s_4
  refine RL.nil (RC.back ?_)
  refine RC.seq ?_
  refine RC.region rfl ?_
  refine RL.ev (.move rfl) rfl rfl ?_
  refine RL.ev (.nilCheck rfl) rfl rfl ?_
  refine RL.ev (.field0 fo108_0 rfl) rfl rfl ?_
  refine RL.ev (.loadR (wvA na fa nc fc s.1) sh34 rfl (row_pref (xs := wvA na fa nc fc s.1) (ys := [.int .i64 s.2]) hbf) rfl) rfl rfl ?_
  refine RL.ev (.move rfl) rfl rfl ?_
  refine RL.call rfl ok94 (c_aGet s.1 na fa nc fc r hr w_4 (hA.sub S)) rfl rfl ?_
  rintro _ w1 ⟨rfl, s2⟩
  have S := S.trans s2
  have hbf := hbf.sub s2
  have hb_4 := hb_4.sub s2
  refine RL.ev (.as (v' := .tuple #[(getN s.1 r).val, .int .i64 e]) (.move rfl) (by rw [hgv])) rfl rfl ?_
  refine RL.ev (.extract rfl rfl) rfl rfl ?_
  refine RL.ev (.extract rfl rfl) rfl rfl ?_
  refine RL.alloc ze97 rfl rfl (fun b_5 w_5 e_5 z_5 hb_5 s_5 => ?_)
  have ge_5 := S.le e_5
  have n__5 := hbf.ne e_5
  have n_4__5 := hb_4.ne e_5
  have S := S.trans s_5
  have hbf := hbf.sub s_5
  have hb_4 := hb_4.sub s_5
  refine RL.store sh97 rfl rfl rfl hb_5 (by exact Nat.le_of_ble_eq_true rfl) (by rfl) rfl (fun w3 z3 hb_5 a3 => ?_)
  have S := S.upd a3 ge_5
  have hbf := hbf.upd a3 n__5
  have hb_4 := hb_4.upd a3 n_4__5
  have hb_5 : Has w3 b_5 ((getN s.1 r).cells) _ := hb_5.now (by kernel_rfl)
  refine RL.ev (.assign rfl) rfl rfl ?_
  refine RL.nil (RC.back ?_)
  refine RC.seq ?_
  refine RC.region rfl ?_
  refine RL.ev (.loadR ((getN s.1 r).cells) sh97 rfl hb_5.row rfl) rfl rfl ?_
  refine RL.store sh97 rfl rfl rfl hb_4 (by exact Nat.le_of_ble_eq_true rfl) (by rfl) rfl (fun w4 z4 hb_4 a4 => ?_)
  have S := S.upd a4 ge_4
  have hbf := hbf.upd a4 n__4
  have hb_5 := hb_5.upd a4 n_4__5.symm
  have hb_4 : Has w4 b_4 ((getN s.1 r).cells) _ := hb_4.now (by kernel_rfl)
  refine RL.nil (RC.back ?_)
  refine RC.done (rs := [.cell 4 97]) (vs := [_]) rfl rfl ⟨⟨_, rfl, .inr ⟨(getN s.1 r).cells, sh97, hb_4.row, rfl⟩⟩, trivial⟩ ?_
  -- end 1
  exact ⟨rfl, S⟩
theorem c_hsize (b : Nat) (s : St) (C : Nat → Prop) (r : Int) (hr : U64 r) (w : World) (hF : Ft C (Ho b s C) w) :
    FC Try.prog 57 [.pointer (some ⟨b, 0, none⟩), .int .u64 r] w (Val (.int .i64 (szH s.1 r)) w) := by
  refine FC.intro Try.func57 rfl Try.ntmps57 rfl ?_
  have S := Sub.refl w
  refine RC.seq ?_
  refine RC.region rfl ?_
  refine RL.ev (.assign rfl) rfl rfl ?_
  refine RL.nil (RC.back ?_)
  refine RC.seq ?_
  refine RC.region rfl ?_
  refine RL.ev (.move rfl) rfl rfl ?_
  refine RL.ev (.move rfl) rfl rfl ?_
  refine RL.call rfl ok77 (c_hget b s C r hr w hF) rfl rfl ?_
  rintro _ w1 ⟨rfl, s2⟩
  have S := S.trans s2
  have hF := hF.sub s2
  refine RL.alloc ze97 rfl rfl (fun b_5 w_5 e_5 z_5 hb_5 s_5 => ?_)
  have ge_5 := S.le e_5
  have d_hF_b_5 := hF.neNew e_5
  have S := S.trans s_5
  have hF := hF.sub s_5
  refine RL.store sh97 rfl rfl rfl hb_5 (by exact Nat.le_of_ble_eq_true rfl) (by rfl) rfl (fun w3 z3 hb_5 a3 => ?_)
  have S := S.upd a3 ge_5
  have hF := hF.updD a3 d_hF_b_5
  have hb_5 : Has w3 b_5 ((getN s.1 r).cells) _ := hb_5.now (by kernel_rfl)
  refine RL.nil (RC.back ?_)
  refine RC.seq ?_
  refine RC.seq ?_
  refine RC.region rfl ?_
  refine RL.ev (.field0 fo97_0 rfl) rfl rfl ?_
  refine RL.ev (.load1 sh3 rfl (hb_5.cell rfl)) rfl rfl ?_
  refine RL.ev (.bin rfl rfl rfl) rfl rfl ?_
  refine RL.nil (RC.back ?_)
  refine RC.cond_dec rfl (fun h4 => ?_) (fun h4 => ?_)
  ·
    have hres : szH s.1 r = 1 := if_pos h4
    refine RC.seq ?_
    refine RC.region rfl ?_
    refine RL.ev (.assign rfl) rfl rfl ?_
    refine RL.nil (RC.back ?_)
    refine RC.done (rs := [.tmp 4]) (vs := [_]) rfl rfl ⟨rfl, trivial⟩ ?_
    -- end 1
    rw [hres]
    exact ⟨rfl, S⟩
  ·
    have hres : szH s.1 r = (getN s.1 r).s := if_neg h4
    refine RC.skip (RC.back ?_)
    refine RC.seq ?_
    refine RC.region rfl ?_
    refine RL.ev (.field0 fo97_4 rfl) rfl rfl ?_
    refine RL.ev (.load1 sh2 rfl (hb_5.cell rfl)) rfl rfl ?_
    refine RL.ev (.assign rfl) rfl rfl ?_
    refine RL.nil (RC.back ?_)
    refine RC.done (rs := [.tmp 4]) (vs := [_]) rfl rfl ⟨rfl, trivial⟩ ?_
    -- end 2
    rw [hres]
    exact ⟨rfl, S⟩
theorem hN_ok {kd g n v s : Int} {ks : List Int} (h1 : I64 kd) (h2 : I64 g) (h3 : I64 n) (h4 : I64 v) (h5 : I64 s) (h6 : ∀ k ∈ ks, U64 k) : (hN kd g n v s ks).ok := by
  have hz : ∀ i, U64 (ks.getD i 0) := fun i => by
    rw [List.getD_eq_getElem?_getD]
    cases h : ks[i]? with
    | none => exact zu64
    | some x => exact h6 x (List.mem_of_getElem? h)
  refine ⟨h1, h2, h3, h4, h5, ?_, z64, z64⟩
  intro k hk
  simp only [hN, Node.kids, List.mem_cons, List.not_mem_nil, or_false] at hk
  rcases hk with rfl | rfl | rfl | rfl | rfl | rfl | rfl | rfl | rfl <;> exact hz _
theorem c_hmake (bf : Nat) (s : St) (C : Nat → Prop) (x : Node) (hx : x.ok) (w : World) (hF : Ft C (Ho bf s C) w) :
    FC Try.prog 101 [.pointer (some ⟨bf, 0, none⟩), x.val] w (fun u w' => ∃ s' r C', u = .int .u64 r ∧ MkX s x s' r ∧ Ft C' (Ho bf s' C') w' ∧ Agr (· = bf) w w' ∧ Up C w C') := by
  obtain ⟨hCb, na, fa, nc, fc, M, hbf, hnc, hfc, hA, hMb, hMC⟩ := hF.now
  obtain ⟨A, bad⟩ := s
  simp only [] at hbf hnc hfc hA
  have dA : ∀ k, M k → k ≠ bf := fun k hk e => hMb (e ▸ hk)
  refine FC.intro Try.func101 rfl Try.ntmps101 rfl ?_
  have G : Agr (· = bf) w w := Agr.refl _ _
  refine RC.seq ?_
  refine RC.region rfl ?_
  refine RL.box rfl rfl rfl (fun b_3 w_3 e_3 z_3 hb_3 s_3 => ?_)
  have nf__3 := hbf.ne e_3
  have d_hA_b_3 := hA.neNew e_3
  have d_hF_b_3 := hF.neNew e_3
  have geG_3 := agLe G e_3
  have G := G.trans s_3.agr
  have hbf := hbf.sub s_3
  have hA := hA.sub s_3
  have hF := hF.sub s_3
  have hb_3 : Has w_3 b_3 (x.cells) _ := hb_3
  refine RL.ev (.assign rfl) rfl rfl ?_
  refine RL.nil (RC.back ?_)
  refine RC.seq ?_
  refine RC.seq ?_
  refine RC.region rfl ?_
  refine RL.ev (.move rfl) rfl rfl ?_
  refine RL.ev (.nilCheck rfl) rfl rfl ?_
  refine RL.ev (.field0 fo108_1 rfl) rfl rfl ?_
  refine RL.ev (.load1 sh39 rfl (hbf.cell rfl)) rfl rfl ?_
  refine RL.ev (.bin rfl rfl rfl) rfl rfl ?_
  refine RL.nil (RC.back ?_)
  refine RC.cond_dec rfl (fun h1 => ?_) (fun h1 => ?_)
  ·
    have hbad : ¬ bad = 0 := h1
    refine RC.seq ?_
    refine RC.region rfl ?_
    refine RL.ev (.assign rfl) rfl rfl ?_
    refine RL.nil (RC.back ?_)
    refine RC.done (rs := [.tmp 4]) (vs := [_]) rfl rfl ⟨rfl, trivial⟩ ?_
    -- end 1
    exact ⟨(A, bad), 0, C, rfl, .inl ⟨hbad, rfl, rfl⟩, hF, G, Up.refl _ _⟩
  ·
    have hbad : bad = 0 := Decidable.not_not.1 h1
    refine RC.skip (RC.back ?_)
    refine RC.seq ?_
    refine RC.drawD (fun k => False) [11] w_3.heap.size 14 rfl rfl mxo (fun w2 s3 => ?_)
    have ltD_bf := hbf.lt
    have ltD_hA := fun k hk => (hA.ge k hk).2
    have ltD_hF := fun k hk => (hF.ge k hk).2
    have ltD_b_3 := hb_3.lt
    have szD := Nat.le_refl w_3.heap.size
    have G := G.trans s3.agr
    have hbf := hbf.sub s3
    have hA := hA.sub s3
    have hF := hF.sub s3
    have hb_3 := hb_3.sub s3
    have szD := Nat.le_trans szD s3.size
    refine RD.take 0 rfl (by kernel_rfl) (by kernel_rfl) (by kernel_rfl) (fun w' s' => .move rfl) rfl rfl ?_
    refine RD.take 1 rfl (by kernel_rfl) (by kernel_rfl) (by kernel_rfl) (fun w' s' => .nilCheck rfl) rfl rfl ?_
    refine RD.take 2 rfl (by kernel_rfl) (by kernel_rfl) (by kernel_rfl) (fun w' s' => .field0 fo108_0 rfl) rfl rfl ?_
    refine RD.take 3 rfl (by kernel_rfl) (by kernel_rfl) (by kernel_rfl) (fun w' s' => .loadR (wvA na fa nc fc A) sh34 rfl (row_pref (xs := wvA na fa nc fc A) (ys := [.int .i64 bad]) (hbf.step s' (fun e => e.elim (fun e => e.elim) (fun e => Nat.not_le.2 ltD_bf e)))) rfl) rfl rfl ?_
    refine RD.take 4 rfl (by kernel_rfl) (by kernel_rfl) (by kernel_rfl) (fun w' s' => .loadR (x.cells) sh97 rfl (hb_3.step s' (fun e => e.elim (fun e => e.elim) (fun e => Nat.not_le.2 ltD_b_3 e))).row rfl) rfl rfl ?_
    refine RD.all [5, 10] (by kernel_rfl) rfl (RDs.cons rfl ?_ (RDs.cons rfl ?_ (RDs.nil)))
    ·
      refine RL.call rfl ok112 (c_aMake A na fa nc fc x hx w2 hA.now hfc) rfl rfl ?_
      rintro _ w4 ⟨s5, hr2⟩
      obtain ⟨nb, fb, ncb, fcb, B, rB, eB, rfl, hnB, hfB, hiB, he0, he1⟩ := make_form hr2
      have szGM := G.size
      have d_hB_bf := neFt (w' := w4) dA hbf.lt
      have d_hB_b_3 := neFt (w' := w4) d_hA_b_3 hb_3.lt
      have hB := hA.ans hiB s5
      have G := G.trans s5.agr
      have hbf := hbf.sub s5
      have hA := hA.sub s5
      have hF := hF.sub s5
      have hb_3 := hb_3.sub s5
      have szD := Nat.le_trans szD s5.size
      refine RD.back s5.agr ?_
      refine RD.take 6 rfl (by kernel_rfl) (by kernel_rfl) (by kernel_rfl) (fun w' s' => .move rfl) rfl rfl ?_
      refine RD.take 7 rfl (by kernel_rfl) (by kernel_rfl) (by kernel_rfl) (fun w' s' => .extract rfl rfl) rfl rfl ?_
      refine RD.take 8 rfl (by kernel_rfl) (by kernel_rfl) (by kernel_rfl) (fun w' s' => .extract rfl rfl) rfl rfl ?_
      refine RD.take 9 rfl (by kernel_rfl) (by kernel_rfl) (by kernel_rfl) (fun w' s' => .extract rfl rfl) rfl rfl ?_
      refine RD.all [10] (by kernel_rfl) rfl (RDs.cons rfl ?_ (RDs.nil))
      refine RL.alloc ze34 rfl rfl (fun b_5 w_5 e_5 z_5 hb_5 s_5 => ?_)
      have fr_b_5 : w_3.heap.size ≤ b_5 := by rw [e_5]; exact szD
      have nf__5 := hbf.ne e_5
      have n_3__5 := hb_3.ne e_5
      have d_hA_b_5 := hA.neNew e_5
      have d_hF_b_5 := hF.neNew e_5
      have d_hB_b_5 := hB.neNew e_5
      have geG_5 := agLe G e_5
      have G := G.trans s_5.agr
      have hbf := hbf.sub s_5
      have hA := hA.sub s_5
      have hF := hF.sub s_5
      have hb_3 := hb_3.sub s_5
      have szD := Nat.le_trans szD s_5.size
      have hB := hB.sub s_5
      refine RD.back s_5.agr ?_
      refine RD.all [11] (by kernel_rfl) rfl (RDs.cons rfl ?_ (RDs.nil))
      refine RL.store sh34 rfl rfl rfl hb_5 (by exact Nat.le_of_ble_eq_true rfl) (by rfl) rfl (fun w6 z6 hb_5 a6 => ?_)
      have G := agNew G a6 geG_5
      have hbf := hbf.upd a6 nf__5
      have hA := hA.updD a6 d_hA_b_5
      have hF := hF.updD a6 d_hF_b_5
      have hb_3 := hb_3.upd a6 n_3__5
      have szD := Nat.le_trans szD a6.size
      have hB := hB.updD a6 d_hB_b_5
      have hb_5 : Has w6 b_5 ([.slice nb B.nodes.length ncb, .slice fb B.free.length fcb]) _ := hb_5.now (by kernel_rfl)
      refine RD.backW rfl (a6.mono fun k _ e => e ▸ (.inr fr_b_5)) ?_
      refine RD.take 12 rfl (by kernel_rfl) (by kernel_rfl) (by kernel_rfl) (fun w' s' => .assign rfl) rfl rfl ?_
      refine RD.take 13 rfl (by kernel_rfl) (by kernel_rfl) (by kernel_rfl) (fun w' s' => .assign rfl) rfl rfl ?_
      refine RD.done (by kernel_rfl) (RC.back ?_)
      refine RC.seq ?_
      refine RC.seq ?_
      refine RC.region rfl ?_
      refine RL.ev (.move rfl) rfl rfl ?_
      refine RL.ev (.move rfl) rfl rfl ?_
      refine RL.ev (.nilCheck rfl) rfl rfl ?_
      refine RL.ev (.field0 fo108_1 rfl) rfl rfl ?_
      refine RL.store sh39 rfl rfl rfl hbf (by exact Nat.le_of_ble_eq_true rfl) (by rfl) rfl (fun w7 z7 hbf a7 => ?_)
      have G := G.trans a7
      have hA := hA.updD a7 dA
      have hb_3 := hb_3.upd a7 nf__3.symm
      have hB := hB.updD a7 d_hB_bf
      have hb_5 := hb_5.upd a7 nf__5.symm
      have hbf : Has w7 bf (wvC na fa nc fc A eB) _ := hbf
      refine RL.nil (RC.back ?_)
      refine RC.seq ?_
      refine RC.region rfl ?_
      refine RL.ev (.move rfl) rfl rfl ?_
      refine RL.ev (.bin rfl rfl rfl) rfl rfl ?_
      refine RL.nil (RC.back ?_)
      refine RC.cond_dec rfl (fun h8 => ?_) (fun h8 => ?_)
      ·
        have he := h8
        refine RC.seq ?_
        refine RC.region rfl ?_
        refine RL.ev (.assign rfl) rfl rfl ?_
        refine RL.nil (RC.back ?_)
        refine RC.done (rs := [.tmp 4]) (vs := [_]) rfl rfl ⟨rfl, trivial⟩ ?_
        -- end 2
        obtain ⟨rfl, rfl, hcs⟩ := he1 he
        refine ⟨(A, eB), 0, _, rfl, .inr (.inr ?_), FoG.ft hbf hnc hfc hA hMb, G, fun k hk => .inl (hk.elim (fun e => e ▸ hCb) (hMC k))⟩
        rcases hcs with ⟨h1, h2⟩ | ⟨h1, h2, h3⟩
        · exact .inr ⟨hbad, h1, by rw [h2], rfl⟩
        · exact .inl ⟨hbad, h1, h2, by rw [h3], rfl⟩
      ·
        have he : eB = 0 := Decidable.not_not.1 h8
        refine RC.skip (RC.back ?_)
        refine RC.seq ?_
        refine RC.region rfl ?_
        refine RL.ev (.move rfl) rfl rfl ?_
        refine RL.ev (.loadR ([.slice nb B.nodes.length ncb, .slice fb B.free.length fcb]) sh34 rfl hb_5.row rfl) rfl rfl ?_
        refine RL.ev (.nilCheck rfl) rfl rfl ?_
        refine RL.ev (.field0 fo108_0 rfl) rfl rfl ?_
        refine RL.store sh34 rfl rfl rfl hbf (by exact Nat.le_of_ble_eq_true rfl) (by rfl) rfl (fun w9 z9 hbf a9 => ?_)
        have G := G.trans a9
        have hA := hA.updD a9 dA
        have hb_3 := hb_3.upd a9 nf__3.symm
        have hB := hB.updD a9 d_hB_bf
        have hb_5 := hb_5.upd a9 nf__5.symm
        refine RL.nil (RC.back ?_)
        refine RC.seq ?_
        refine RC.region rfl ?_
        refine RL.ev (.move rfl) rfl rfl ?_
        refine RL.ev (.assign rfl) rfl rfl ?_
        refine RL.nil (RC.back ?_)
        refine RC.done (rs := [.tmp 4]) (vs := [_]) rfl rfl ⟨rfl, trivial⟩ ?_
        -- end 3
        obtain ⟨h1, h2, h3, h4⟩ := he0 he
        exact ⟨(B, eB), rB, _, rfl, .inr (.inl ⟨hbad, h1, h2, by rw [he, h3], h4⟩), FoG.ft hbf hnB hfB hB (fun e => d_hB_bf _ e rfl), G, fun k hk => hk.elim (fun e => .inl (e ▸ hCb)) (fun e => e.elim (fun e => .inl (hMC k e)) (fun e => .inr (Nat.le_trans szGM e.1)))⟩
    ·
      refine RL.alloc ze34 rfl rfl (fun b_5 w_5 e_5 z_5 hb_5 s_5 => ?_)
      have fr_b_5 : w_3.heap.size ≤ b_5 := by rw [e_5]; exact szD
      have nf__5 := hbf.ne e_5
      have n_3__5 := hb_3.ne e_5
      have d_hA_b_5 := hA.neNew e_5
      have d_hF_b_5 := hF.neNew e_5
      have geG_5 := agLe G e_5
      have G := G.trans s_5.agr
      have hbf := hbf.sub s_5
      have hA := hA.sub s_5
      have hF := hF.sub s_5
      have hb_3 := hb_3.sub s_5
      have szD := Nat.le_trans szD s_5.size
      refine RD.back s_5.agr ?_
      refine RD.all [5] (by kernel_rfl) rfl (RDs.cons rfl ?_ (RDs.nil))
      refine RL.call rfl ok112 (c_aMake A na fa nc fc x hx w_5 hA.now hfc) rfl rfl ?_
      rintro _ w10 ⟨s11, hr2⟩
      obtain ⟨nb, fb, ncb, fcb, B, rB, eB, rfl, hnB, hfB, hiB, he0, he1⟩ := make_form hr2
      have szGM := G.size
      have d_hB_bf := neFt (w' := w10) dA hbf.lt
      have d_hB_b_3 := neFt (w' := w10) d_hA_b_3 hb_3.lt
      have d_hB_b_5 := neFt (w' := w10) d_hA_b_5 hb_5.lt
      have hB := hA.ans hiB s11
      have G := G.trans s11.agr
      have hbf := hbf.sub s11
      have hA := hA.sub s11
      have hF := hF.sub s11
      have hb_3 := hb_3.sub s11
      have szD := Nat.le_trans szD s11.size
      have hb_5 := hb_5.sub s11
      refine RD.back s11.agr ?_
      refine RD.take 6 rfl (by kernel_rfl) (by kernel_rfl) (by kernel_rfl) (fun w' s' => .move rfl) rfl rfl ?_
      refine RD.take 7 rfl (by kernel_rfl) (by kernel_rfl) (by kernel_rfl) (fun w' s' => .extract rfl rfl) rfl rfl ?_
      refine RD.take 8 rfl (by kernel_rfl) (by kernel_rfl) (by kernel_rfl) (fun w' s' => .extract rfl rfl) rfl rfl ?_
      refine RD.take 9 rfl (by kernel_rfl) (by kernel_rfl) (by kernel_rfl) (fun w' s' => .extract rfl rfl) rfl rfl ?_
      refine RD.all [11] (by kernel_rfl) rfl (RDs.cons rfl ?_ (RDs.nil))
      refine RL.store sh34 rfl rfl rfl hb_5 (by exact Nat.le_of_ble_eq_true rfl) (by rfl) rfl (fun w12 z12 hb_5 a12 => ?_)
      have G := agNew G a12 geG_5
      have hbf := hbf.upd a12 nf__5
      have hA := hA.updD a12 d_hA_b_5
      have hF := hF.updD a12 d_hF_b_5
      have hb_3 := hb_3.upd a12 n_3__5
      have szD := Nat.le_trans szD a12.size
      have hB := hB.updD a12 d_hB_b_5
      have hb_5 : Has w12 b_5 ([.slice nb B.nodes.length ncb, .slice fb B.free.length fcb]) _ := hb_5.now (by kernel_rfl)
      refine RD.backW rfl (a12.mono fun k _ e => e ▸ (.inr fr_b_5)) ?_
      refine RD.take 12 rfl (by kernel_rfl) (by kernel_rfl) (by kernel_rfl) (fun w' s' => .assign rfl) rfl rfl ?_
      refine RD.take 13 rfl (by kernel_rfl) (by kernel_rfl) (by kernel_rfl) (fun w' s' => .assign rfl) rfl rfl ?_
      refine RD.done (by kernel_rfl) (RC.back ?_)
      refine RC.seq ?_
      refine RC.seq ?_
      refine RC.region rfl ?_
      refine RL.ev (.move rfl) rfl rfl ?_
      refine RL.ev (.move rfl) rfl rfl ?_
      refine RL.ev (.nilCheck rfl) rfl rfl ?_
      refine RL.ev (.field0 fo108_1 rfl) rfl rfl ?_
      refine RL.store sh39 rfl rfl rfl hbf (by exact Nat.le_of_ble_eq_true rfl) (by rfl) rfl (fun w13 z13 hbf a13 => ?_)
      have G := G.trans a13
      have hA := hA.updD a13 dA
      have hb_3 := hb_3.upd a13 nf__3.symm
      have hb_5 := hb_5.upd a13 nf__5.symm
      have hB := hB.updD a13 d_hB_bf
      have hbf : Has w13 bf (wvC na fa nc fc A eB) _ := hbf
      refine RL.nil (RC.back ?_)
      refine RC.seq ?_
      refine RC.region rfl ?_
      refine RL.ev (.move rfl) rfl rfl ?_
      refine RL.ev (.bin rfl rfl rfl) rfl rfl ?_
      refine RL.nil (RC.back ?_)
      refine RC.cond_dec rfl (fun h14 => ?_) (fun h14 => ?_)
      ·
        have he := h14
        refine RC.seq ?_
        refine RC.region rfl ?_
        refine RL.ev (.assign rfl) rfl rfl ?_
        refine RL.nil (RC.back ?_)
        refine RC.done (rs := [.tmp 4]) (vs := [_]) rfl rfl ⟨rfl, trivial⟩ ?_
        -- end 4
        obtain ⟨rfl, rfl, hcs⟩ := he1 he
        refine ⟨(A, eB), 0, _, rfl, .inr (.inr ?_), FoG.ft hbf hnc hfc hA hMb, G, fun k hk => .inl (hk.elim (fun e => e ▸ hCb) (hMC k))⟩
        rcases hcs with ⟨h1, h2⟩ | ⟨h1, h2, h3⟩
        · exact .inr ⟨hbad, h1, by rw [h2], rfl⟩
        · exact .inl ⟨hbad, h1, h2, by rw [h3], rfl⟩
      ·
        have he : eB = 0 := Decidable.not_not.1 h14
        refine RC.skip (RC.back ?_)
        refine RC.seq ?_
        refine RC.region rfl ?_
        refine RL.ev (.move rfl) rfl rfl ?_
        refine RL.ev (.loadR ([.slice nb B.nodes.length ncb, .slice fb B.free.length fcb]) sh34 rfl hb_5.row rfl) rfl rfl ?_
        refine RL.ev (.nilCheck rfl) rfl rfl ?_
        refine RL.ev (.field0 fo108_0 rfl) rfl rfl ?_
        refine RL.store sh34 rfl rfl rfl hbf (by exact Nat.le_of_ble_eq_true rfl) (by rfl) rfl (fun w15 z15 hbf a15 => ?_)
        have G := G.trans a15
        have hA := hA.updD a15 dA
        have hb_3 := hb_3.upd a15 nf__3.symm
        have hb_5 := hb_5.upd a15 nf__5.symm
        have hB := hB.updD a15 d_hB_bf
        refine RL.nil (RC.back ?_)
        refine RC.seq ?_
        refine RC.region rfl ?_
        refine RL.ev (.move rfl) rfl rfl ?_
        refine RL.ev (.assign rfl) rfl rfl ?_
        refine RL.nil (RC.back ?_)
        refine RC.done (rs := [.tmp 4]) (vs := [_]) rfl rfl ⟨rfl, trivial⟩ ?_
        -- end 5
        obtain ⟨h1, h2, h3, h4⟩ := he0 he
        exact ⟨(B, eB), rB, _, rfl, .inr (.inl ⟨hbad, h1, h2, by rw [he, h3], h4⟩), FoG.ft hbf hnB hfB hB (fun e => d_hB_bf _ e rfl), G, fun k hk => hk.elim (fun e => .inl (e ▸ hCb)) (fun e => e.elim (fun e => .inl (hMC k e)) (fun e => .inr (Nat.le_trans szGM e.1)))⟩
theorem c_hleaf (bf : Nat) (s : St) (C : Nat → Prop) (key v : Int) (hk : I64 key) (hv : I64 v) (w : World) (hF : Ft C (Ho bf s C) w) :
    FC Try.prog 85 [.pointer (some ⟨bf, 0, none⟩), .int .i64 key, .int .i64 v] w (fun u w' => ∃ s' r C', u = .int .u64 r ∧ MkX s (hN 3 0 key v 0 []) s' r ∧ Ft C' (Ho bf s' C') w' ∧ Agr (· = bf) w w' ∧ Up C w C') := by
  refine FC.intro Try.func85 rfl Try.ntmps85 rfl ?_
  have G : Agr (· = bf) w w := Agr.refl _ _
  refine RC.seq ?_
  refine RC.region rfl ?_
  refine RL.ev (.assign rfl) rfl rfl ?_
  refine RL.nil (RC.back ?_)
  refine RC.seq ?_
  refine RC.region rfl ?_
  refine RL.ev (.move rfl) rfl rfl ?_
  refine RL.ev (.move rfl) rfl rfl ?_
  refine RL.ev (.move rfl) rfl rfl ?_
  refine RL.ev (.buildS ze97 pl97 rfl rfl) rfl rfl ?_
  refine RL.call rfl ok101 (c_hmake bf s C (hN 3 0 key v 0 []) (hN_ok (by unfold I64; decide) z64 hk hv z64 (fun k h => by cases h)) w hF) rfl rfl ?_
  rintro _ w1 ⟨s1, r1, C1, rfl, hm, hF1, ag, up⟩
  have up := up.le G.size
  have G := G.trans ag
  have hF := hF1
  refine RL.ev (.assign rfl) rfl rfl ?_
  refine RL.nil (RC.back ?_)
  refine RC.done (rs := [.tmp 6]) (vs := [_]) rfl rfl ⟨rfl, trivial⟩ ?_
  -- end 1
  exact ⟨s1, r1, C1, rfl, hm, hF, G, up⟩
/-- how many keys the tables have together, as they tell -/
def sumH (A : Ar) (ks : List Int) : Nat → Int
  | 0 => 0
  | i + 1 => IntKind.i64.wrap (sumH A ks i + szH A (ks.getD i 0))
theorem sumH_i64 (A : Ar) (ks : List Int) (i : Nat) : I64 (sumH A ks i) := by
  cases i with
  | zero => exact z64
  | succ i => unfold I64; show _ ≤ IntKind.i64.wrap _ ∧ IntKind.i64.wrap _ ≤ _; rw [IntKind.wrap_i64]; omega
theorem hN_blit (kd : Int) : ∀ ks : List Int, ks.length ≤ 9 → (blit ((hN kd 0 0 0 0 []).cells.map fun v => [v]) 5 ((ks.map fun x => [u6 x]).take (min ks.length 9))).flatten = (hN kd 0 0 0 0 ks).cells := by
  intro ks h
  rcases ks with _|⟨a, _|⟨b, _|⟨c, _|⟨d, _|⟨e, _|⟨f, _|⟨g, _|⟨i, _|⟨j, _|⟨k, ks⟩⟩⟩⟩⟩⟩⟩⟩⟩⟩
  all_goals first | rfl | (simp at h; omega)
def hC (kd s : Int) (ks : List Int) : List Value := (hN kd 0 0 0 s ks).cells
set_option maxHeartbeats 1000000 in
theorem c_hnode (bf : Nat) (s : St) (C : Nat → Prop) (kd : Int) (hkd : I64 kd) (ks : List Int) (hks : ∀ k ∈ ks, U64 k) (hl : ks.length ≤ 9) (ka : Option Addr) (m kc : Nat) (hm : m = ks.length) (M : Nat → Prop) (w : World) (hF : Ft C (Ho bf s C) w) (hK : Ft M (fun u => Sl u ka 1 (ks.map fun x => [u6 x])) w) :
    FC Try.prog 80 [.pointer (some ⟨bf, 0, none⟩), .int .i64 kd, .slice ka m kc] w (fun u w' => ∃ s' r C', u = .int .u64 r ∧ MkX s (hN kd 0 0 0 (sumH s.1 ks ks.length) ks) s' r ∧ Ft C' (Ho bf s' C') w' ∧ Agr (· = bf) w w' ∧ Up C w C') := by
  subst hm
  have hCb := hF.now.1
  refine FC.intro Try.func80 rfl Try.ntmps80 rfl ?_
  have G : Agr (· = bf) w w := Agr.refl _ _
  refine RC.seq ?_
  refine RC.region rfl ?_
  refine RL.ev (.assign rfl) rfl rfl ?_
  refine RL.nil (RC.back ?_)
  refine RC.seq ?_
  refine RC.region rfl ?_
  refine RL.ev (.move rfl) rfl rfl ?_
  refine RL.ev (.buildS ze97 pl97 rfl rfl) rfl rfl ?_
  refine RL.alloc ze97 rfl rfl (fun b_7 w_7 e_7 z_7 hb_7 s_7 => ?_)
  have d_hF_b_7 := hF.neNew e_7
  have d_hK_b_7 := hK.neNew e_7
  have geG_7 := agLe G e_7
  have G := G.trans s_7.agr
  have hF := hF.sub s_7
  have hK := hK.sub s_7
  refine RL.store sh97 rfl rfl rfl hb_7 (by exact Nat.le_of_ble_eq_true rfl) (by rfl) rfl (fun w1 z1 hb_7 a1 => ?_)
  have G := agNew G a1 geG_7
  have hF := hF.updD a1 d_hF_b_7
  have hK := hK.updD a1 d_hK_b_7
  have hb_7 : Has w1 b_7 ((hN kd 0 0 0 0 []).cells) _ := hb_7.now (by kernel_rfl)
  have hb_7 : Has w1 b_7 ((hN kd 0 0 0 0 []).cells.map fun v => [v]).flatten 97 := hb_7
  refine RL.nil (RC.back ?_)
  refine RC.seq ?_
  refine RC.region rfl ?_
  refine RL.ev (.field0 fo97_5 rfl) rfl rfl ?_
  refine RL.ev (.as (v' := .slice (some ⟨b_7, 5 * 1, none⟩) 9 9) (.sliceArr ar95 rfl) (by rfl)) rfl rfl ?_
  refine RL.ev (.move rfl) rfl rfl ?_
  refine RL.copyB (o := 5) (R := (hN kd 0 0 0 0 []).cells.map fun v => [v]) sl118 rfl rfl rfl hb_7 (fun r hr => by obtain ⟨z, _, rfl⟩ := List.mem_map.1 hr; rfl) (by simp [hN, Node.cells]; omega) hK.now (by rw [List.length_map]) (fun r hr => by obtain ⟨z, _, rfl⟩ := List.mem_map.1 hr; rfl) (by rw [List.all_eq_true]; intro r hr; obtain ⟨x, _, rfl⟩ := List.mem_map.1 (List.mem_of_mem_take hr); rfl) rfl rfl (fun w2 z15 hb_7 a15 => ?_)
  have G := agNew G a15 geG_7
  have hF := hF.updD a15 d_hF_b_7
  have hK := hK.updD a15 d_hK_b_7
  rw [hN_blit kd ks hl] at hb_7
  refine RL.nil (RC.back ?_)
  refine RC.seq ?_
  refine RC.seq ?_
  refine RC.region rfl ?_
  refine RL.ev (.move rfl) rfl rfl ?_
  refine RL.ev (.len sl118 rfl) rfl rfl ?_
  refine RL.ev (.move rfl) rfl rfl ?_
  refine RL.nil (RC.back ?_)
  refine RC.block ?_
  refine RC.loop (α := Nat) (fun i => [(0, .pointer (some ⟨bf, 0, none⟩)), (7, .pointer (some ⟨b_7, 0, none⟩)), (16, .slice ka ks.length kc), (17, .int .i64 (ks.length : Int)), (18, .int .i64 (i : Int))]) (fun i w3 => i ≤ ks.length ∧ Has w3 b_7 (hN kd 0 0 0 (sumH s.1 ks i) ks).cells 97 ∧ Ft C (Ho bf s C) w3 ∧ Ft M (fun u => Sl u ka 1 (ks.map fun x => [u6 x])) w3 ∧ Agr (· = bf) w w3 ∧ b_7 ≠ bf ∧ (∀ k, C k → k ≠ b_7) ∧ (∀ k, M k → k ≠ b_7)) (fun i => ks.length - i) 0 (keep_of (by repeat (first | exact trivial | refine And.intro rfl ?_))) (⟨Nat.zero_le _, hb_7, hF, hK, G, fun e => d_hF_b_7 bf hCb e.symm, d_hF_b_7, d_hK_b_7⟩) (fun i w3 hJ => ?_)
  obtain ⟨hi, hb_7, hF, hK, G, n7, dF, dK⟩ := hJ
  refine RC.seq ?_
  refine RC.region rfl ?_
  refine RL.ev (.bin rfl rfl rfl) rfl rfl ?_
  refine RL.nil (RC.back ?_)
  refine RC.seq ?_
  refine RC.cond_dec rfl (fun h4 => ?_) (fun h4 => ?_)
  ·
    obtain ⟨x, hx⟩ := getSome (l := ks) (i := i) (by omega)
    have hgx : ks.getD i 0 = x := (by rw [List.getD_eq_getElem?_getD, hx]; rfl)
    refine RC.skip (RC.back ?_)
    refine RC.seq ?_
    refine RC.block ?_
    refine RC.seq ?_
    refine RC.region rfl ?_
    refine RL.ev (.indexS sl118 rfl rfl (by omega) (hK.now.is (i := 0) (by simp only [List.length_map, List.length_cons, List.length_nil]; omega))) rfl rfl ?_
    refine RL.ev (.load1 sh36 rfl (hK.now.one (enc := u6) (i := i) hx)) rfl rfl ?_
    refine RL.ev (.assign rfl) rfl rfl ?_
    refine RL.nil (RC.back ?_)
    refine RC.drawD (fun k => k = b_7) [7] w3.heap.size 8 rfl rfl mxo (fun w5 s6 => ?_)
    have ltD_hF := fun k hk => (hF.ge k hk).2
    have ltD_hK := fun k hk => (hK.ge k hk).2
    have ltD_b_7 := hb_7.lt
    have szD := Nat.le_refl w3.heap.size
    have G := G.trans s6.agr
    have hF := hF.sub s6
    have hK := hK.sub s6
    have hb_7 := hb_7.sub s6
    have szD := Nat.le_trans szD s6.size
    refine RD.take 0 rfl (by kernel_rfl) (by kernel_rfl) (by kernel_rfl) (fun w' s' => .field0 fo97_4 rfl) rfl rfl ?_
    refine RD.takeL 1 rfl (by kernel_rfl) (by kernel_rfl) (by kernel_rfl) (by kernel_rfl) (fun w' s' => .load1 sh2 rfl ((hb_7.step s' (fun e => Nat.not_le.2 ltD_b_7 e)).cell rfl)) rfl rfl ?_
    refine RD.take 2 rfl (by kernel_rfl) (by kernel_rfl) (by kernel_rfl) (fun w' s' => .move rfl) rfl rfl ?_
    refine RD.take 3 rfl (by kernel_rfl) (by kernel_rfl) (by kernel_rfl) (fun w' s' => .move rfl) rfl rfl ?_
    refine RD.all [4] (by kernel_rfl) rfl (RDs.cons rfl ?_ (RDs.nil))
    refine RL.call rfl ok57 (c_hsize bf s C x (hks x (List.mem_of_getElem? hx)) w5 hF) rfl rfl ?_
    rintro _ w7 ⟨rfl, s8⟩
    have G := G.trans s8.agr
    have hF := hF.sub s8
    have hK := hK.sub s8
    have hb_7 := hb_7.sub s8
    have szD := Nat.le_trans szD s8.size
    refine RD.back s8.agr ?_
    refine RD.take 5 rfl (by kernel_rfl) (by kernel_rfl) (by kernel_rfl) (fun w' s' => .as (v' := .int .i64 (sumH s.1 ks (i + 1))) (.bin rfl rfl rfl) (by rw [sumH, hgx]; rfl)) rfl rfl ?_
    refine RD.take 6 rfl (by kernel_rfl) (by kernel_rfl) (by kernel_rfl) (fun w' s' => .field0 fo97_4 rfl) rfl rfl ?_
    refine RD.all [7] (by kernel_rfl) rfl (RDs.cons rfl ?_ (RDs.nil))
    refine RL.store sh2 rfl rfl rfl hb_7 (by exact Nat.le_of_ble_eq_true rfl) (by rfl) rfl (fun w9 z9 hb_7 a9 => ?_)
    have G := agNew G a9 geG_7
    have hF := hF.updD a9 dF
    have hK := hK.updD a9 dK
    have szD := Nat.le_trans szD a9.size
    have hb_7 : Has w9 b_7 ((hN kd 0 0 0 (sumH s.1 ks (i + 1)) ks).cells) _ := hb_7
    refine RD.backW rfl (a9.mono fun k _ e => e ▸ (.inl (rfl))) ?_
    refine RD.done (by kernel_rfl) (RC.back ?_)
    refine RC.region rfl ?_
    refine RL.ev (.as (.bin rfl rfl rfl) (wi64 (y := ((i + 1 : Nat) : Int)) (by omega) (by omega))) rfl rfl ?_
    refine RL.ev (.move rfl) rfl rfl ?_
    exact RL.nil (fun a ka => ⟨i + 1, ⟨by omega, hb_7, hF, hK, G, n7, dF, dK⟩, by omega, ka.keep (keep_of (by repeat (first | exact trivial | refine And.intro rfl ?_)))⟩)
  ·
    obtain rfl : i = ks.length := (by omega)
    refine RC.exit rfl (RC.back ?_)
    refine RC.seq ?_
    refine RC.region rfl ?_
    refine RL.ev (.move rfl) rfl rfl ?_
    refine RL.ev (.loadR ((hN kd 0 0 0 (sumH s.1 ks ks.length) ks).cells) sh97 rfl (hb_7.row) rfl) rfl rfl ?_
    refine RL.call rfl ok101 (c_hmake bf s C (hN kd 0 0 0 (sumH s.1 ks ks.length) ks) (hN_ok hkd z64 z64 z64 (sumH_i64 _ _ _) hks) w3 hF) rfl rfl ?_
    rintro _ w10 ⟨s1, r1, C1, rfl, hm, hF1, ag, up⟩
    have up := up.le G.size
    have G := G.trans ag
    have hb_7 := hb_7.upd ag n7
    have hF := hF1
    refine RL.ev (.assign rfl) rfl rfl ?_
    refine RL.nil (RC.back ?_)
    refine RC.done (rs := [.tmp 6]) (vs := [_]) rfl rfl ⟨rfl, trivial⟩ ?_
    -- end 1
    exact ⟨s1, r1, C1, rfl, hm, hF, G, up⟩
end Go.Proofs.Ytbfjobmebkhblaa
set_option linter.unusedVariables false
set_option linter.unusedSimpArgs false
namespace Go.Proofs.Ytbfjobmebkhblaa
open Go Go.XL
def layF : Nat → List Node → Nat → List It → List Node × Int
  | 0, ns, _, _ => (ns, 0)
  | k + 1, ns, at_, l => if topL l < 0 then (ns, 0) else
    ((layF k (layF k ns (at_ + 1) (l.take (topL l).toNat)).1 (at_ + 1 + (topL l).toNat) (l.drop ((topL l).toNat + 1))).1.set at_
      (tNode 0 (l.getD (topL l).toNat it0).k (l.getD (topL l).toNat it0).v l.length (layF k ns (at_ + 1) (l.take (topL l).toNat)).2 (layF k (layF k ns (at_ + 1) (l.take (topL l).toNat)).1 (at_ + 1 + (topL l).toNat) (l.drop ((topL l).toNat + 1))).2), (at_ : Int) + 1)
def buildA (size : Nat) (l : List It) : Ar := ⟨(layF (l.length + 1) (List.replicate size (bareN 0)) 0 l).1, freeB size (size - l.length)⟩
end Go.Proofs.Ytbfjobmebkhblaa
set_option linter.unusedVariables false
set_option linter.unusedSimpArgs false
namespace Go.Proofs.Ytbfjobmebkhblaa
open Go Go.XL
theorem Ft.has {w : World} {b : Nat} {cs : List Value} {e : TypeId} (h : Has w b cs e) : Ft (· = b) (fun u => Has u b cs e) w := ⟨fun k e => e ▸ h.lt, fun u a => h.step a (fun hn => hn rfl)⟩
end Go.Proofs.Ytbfjobmebkhblaa
set_option linter.unusedVariables false
set_option linter.unusedSimpArgs false
namespace Go.Proofs.Ytbfjobmebkhblaa
open Go Go.XL
def szF (A : Ar) (a b : Int) : Int := IntKind.i64.wrap (IntKind.i64.wrap (1 + sizeA A a) + sizeA A b)
def mkN (A : Ar) (n v a b : Int) : Node := tNode 0 n v (szF A a b) a b
/-- one node is made -/
def Mk (s : St) (n v a b : Int) (s' : St) (r : Int) : Prop :=
  (¬ s.2 = 0 ∧ s' = s ∧ r = 0) ∨ (s.2 = 0 ∧ mayMake s.1 (mkN s.1 n v a b) ∧ 0 < s.1.free.length ∧ s' = (makeA s.1 (mkN s.1 n v a b), 0) ∧ r = makeR s.1) ∨
  (s.2 = 0 ∧ mayMake s.1 (mkN s.1 n v a b) ∧ s.1.free.length = 0 ∧ s' = (s.1, 2) ∧ r = 0) ∨ (s.2 = 0 ∧ ¬ mayMake s.1 (mkN s.1 n v a b) ∧ s' = (s.1, 1) ∧ r = 0)
theorem IsT.right {A : Ar} {r : Int} {L : List It} (h : IsT A r L) : rightR r = true := by
  cases h with
  | nil => exact (rightR_iff 0).2 (.inl rfl)
  | node h1 =>
    have h2 := (getA_rng h1).1
    refine Classical.byContradiction fun e => ?_
    rw [placeR_not (fun hn : nodeR r => e hn.2)] at h2
    omega
theorem Mk.gs {s s' : St} {n v a b r : Int} (h : Mk s n v a b s' r) (hA : AOk s.1) (hk : s.2 = 0 → rightR a = true ∧ rightR b = true) : Gs 1 s s' := by
  have hmay : s.2 = 0 → mayMake s.1 (mkN s.1 n v a b) := fun h0 => by
    obtain ⟨h1, h2⟩ := hk h0
    refine ⟨hA, Int.le_refl 1, (by decide : (1 : Int) ≤ 100), ?_⟩
    have h3 : rightR 0 = true := (rightR_iff 0).2 (.inl rfl)
    rw [well_iff]
    refine ⟨by simp [x0, mkN, tNode], ?_⟩
    simp [x0, mkN, tNode, Node.kids, h1, h2, h3]
  rcases h with ⟨h0, rfl, rfl⟩ | ⟨h0, hm, hf, rfl, rfl⟩ | ⟨h0, hm, hf, rfl, rfl⟩ | ⟨h0, hm, rfl, rfl⟩
  · exact (Gs.refl hA).mono (by omega)
  · refine ⟨make_ext hA hf, make_ok hm hf, ?_, fun e => absurd h0 e, fun _ e => absurd rfl e⟩
    simp only [makeA, List.length_take]; omega
  · exact ⟨Ext.refl _, hA, by omega, fun e => absurd h0 e, fun _ _ => ⟨rfl, by omega⟩⟩
  · exact absurd (hmay h0) hm
theorem Mk.u64 {s s' : St} {n v a b r : Int} (h : Mk s n v a b s' r) : U64 r := by
  rcases h with ⟨_, _, rfl⟩ | ⟨_, hm, hf, _, rfl⟩ | ⟨_, _, _, _, rfl⟩ | ⟨_, _, _, rfl⟩
  · unfold U64; decide
  · exact ofR_U64 (make_isR hm.1 hf)
  · unfold U64; decide
  · unfold U64; decide
def ltL (key : Int) (L : List It) : List It := L.filter fun x => decide (x.k < key)
def gtL (key : Int) (L : List It) : List It := L.filter fun x => decide (key < x.k)
def putL (L : List It) (key v : Int) : List It := ltL key L ++ ⟨key, v⟩ :: gtL key L
def delL (L : List It) (key : Int) : List It := L.filter fun x => decide (¬ x.k = key)
theorem filter_all {p : It → Bool} {L : List It} (h : ∀ y ∈ L, p y = true) : L.filter p = L := List.filter_eq_self.2 h
theorem filter_none {p : It → Bool} {L : List It} (h : ∀ y ∈ L, p y = false) : L.filter p = [] := List.filter_eq_nil_iff.2 fun y hy => by rw [h y hy]; simp
section
variable {L R : List It} {it : It} {key v : Int}
theorem Srt.sub {p : It → Bool} (h : Srt L) : Srt (L.filter p) := List.Pairwise.filter _ h
theorem Srt.put (h : Srt L) : Srt (putL L key v) := by
  unfold putL
  refine Srt.join h.sub h.sub (fun y hy => ?_) (fun y hy => ?_)
  · have := (List.mem_filter.1 hy).2; simpa using this
  · have := (List.mem_filter.1 hy).2; simpa using this
end
end Go.Proofs.Ytbfjobmebkhblaa
set_option linter.unusedVariables false
set_option linter.unusedSimpArgs false
namespace Go.Proofs.Ytbfjobmebkhblaa
open Go Go.XL
/-- is a key there? -/
def hasK (l : List It) (key : Int) : Bool := l.any fun x => decide (x.k = key)
theorem hasK_iff {l : List It} {key : Int} : hasK l key = true ↔ ∃ y ∈ l, y.k = key := by simp [hasK]
theorem hasK_no {l : List It} {key : Int} (h : ∀ y ∈ l, ¬ y.k = key) : hasK l key = false := by
  rw [Bool.eq_false_iff]; intro e; obtain ⟨y, hy, e⟩ := hasK_iff.1 e; exact h y hy e
end Go.Proofs.Ytbfjobmebkhblaa
set_option linter.unusedVariables false
set_option linter.unusedSimpArgs false
namespace Go.Proofs.Ytbfjobmebkhblaa
open Go Go.XL
def putM (L : List It) (key v : Int) : List It := ⟨key, v⟩ :: delL L key
section
variable {L M : List It} {key v : Int}
theorem delL_mem {y : It} : y ∈ delL L key ↔ y ∈ L ∧ ¬ y.k = key := by unfold delL; rw [List.mem_filter, decide_eq_true_iff]
theorem putM_perm (p : L.Perm M) : (putM L key v).Perm (putM M key v) := List.Perm.cons _ (p.filter _)
theorem delL_perm (p : L.Perm M) : (delL L key).Perm (delL M key) := p.filter _
theorem Ap.del (h : Ap L) : Ap (delL L key) := h.filter _
theorem Ap.put (h : Ap L) : Ap (putM L key v) := List.pairwise_cons.2 ⟨fun y hy e => (delL_mem.1 hy).2 e.symm, h.del⟩
theorem delL_none (h : ∀ x ∈ L, ¬ x.k = key) : delL L key = L := filter_all fun y hy => by simpa using h y hy
theorem delL_len (h : Ap L) : (delL L key).length + (if hasK L key then 1 else 0) = L.length := by
  induction L with
  | nil => rfl
  | cons x L ih =>
    obtain ⟨h1, h2⟩ := List.pairwise_cons.1 h
    by_cases e : x.k = key
    · have h3 : delL L key = L := delL_none fun y hy e2 => h1 y hy (by omega)
      have h4 : hasK (x :: L) key = true := hasK_iff.2 ⟨x, by simp, e⟩
      have h5 : delL (x :: L) key = delL L key := by unfold delL; rw [List.filter_cons, if_neg (by simpa using e)]
      rw [h4, h5, h3]; rfl
    · have h4 : hasK (x :: L) key = hasK L key := by simp [hasK, e]
      have h5 : delL (x :: L) key = x :: delL L key := by unfold delL; rw [List.filter_cons, if_pos (by simpa using e)]
      rw [h4, h5, List.length_cons, List.length_cons, ← ih h2]; omega
theorem putM_len (h : Ap L) : (putM L key v).length + (if hasK L key then 1 else 0) = L.length + 1 := by
  have := delL_len (key := key) h
  unfold putM
  rw [List.length_cons]; omega
theorem del_parts (key : Int) : ∀ L : List It, (delL L key).Perm (ltL key L ++ gtL key L)
  | [] => List.Perm.refl _
  | x :: L => by
    have ih := del_parts key L
    unfold delL ltL gtL at ih ⊢
    simp only [List.filter_cons]
    rcases Int.lt_trichotomy x.k key with h | h | h
    · rw [if_pos (by simp; omega), if_pos (by simpa using h), if_neg (by simp; omega)]
      exact List.Perm.cons x ih
    · rw [if_neg (by simp; omega), if_neg (by simp; omega), if_neg (by simp; omega)]
      exact ih
    · rw [if_pos (by simp; omega), if_neg (by simp; omega), if_pos (by simpa using h)]
      exact (List.Perm.cons x ih).trans List.perm_middle.symm
theorem putL_putM : (putL L key v).Perm (putM L key v) := by
  unfold putL putM
  exact List.perm_middle.trans (List.Perm.cons _ (del_parts key L).symm)
theorem putS_perm (l : List It) (key v : Int) : ∀ i, i ≤ l.length → ((putS l key v i).1).Perm ((if (putS l key v i).2 then [⟨key, v⟩] else []) ++ delL (l.take i) key)
  | 0, _ => by simp [putS, delL]
  | i + 1, hi => by
    obtain ⟨x, hx⟩ := getSome (l := l) (i := i) (by omega)
    have ih := putS_perm l key v i (by omega)
    have hd : delL (l.take (i + 1)) key = delL (l.take i) key ++ (if ¬ x.k = key then [x] else []) := by
      unfold delL; rw [filter_take hx]; simp
    rw [putS_step hx, hd]
    generalize putS l key v i = sd at ih ⊢
    obtain ⟨o, d⟩ := sd
    simp only [] at ih ⊢
    have base : (if d = false ∧ key ≤ x.k then o ++ [⟨key, v⟩] else o).Perm ((if (d || decide (key ≤ x.k)) = true then [⟨key, v⟩] else []) ++ delL (l.take i) key) := by
      by_cases q : key ≤ x.k
      · rw [decide_eq_true q, Bool.or_true, if_pos rfl]
        cases d with
        | false =>
          rw [if_pos ⟨rfl, q⟩]
          exact (List.perm_append_comm).trans (List.Perm.append_left _ ih)
        | true =>
          rw [if_neg (fun e => by cases e.1)]
          exact ih
      · rw [decide_eq_false q, Bool.or_false, if_neg (fun e => q e.2)]
        exact ih
    by_cases e : x.k = key
    · rw [if_pos e, if_neg (show ¬ ¬ x.k = key from fun h => h e), List.append_nil]; exact base
    · rw [if_neg e, if_pos (show ¬ x.k = key from e), ← List.append_assoc]; exact base.append_right _
theorem putR_putM (l : List It) (key v : Int) : (putR l key v).Perm (putM l key v) := by
  have h := putS_perm l key v l.length (Nat.le_refl _)
  rw [List.take_length] at h
  unfold putR putM
  cases hd : (putS l key v l.length).2 with
  | true => rw [hd] at h; exact h
  | false =>
    rw [hd] at h
    exact (List.perm_append_comm).trans (List.Perm.append_left [⟨key, v⟩] h)
variable {lv i : Nat}
theorem ofL_del : ofL lv i (delL L key) = delL (ofL lv i L) key := by
  unfold ofL delL
  rw [List.filter_filter, List.filter_filter]
  exact List.filter_congr fun x _ => Bool.and_comm _ _
theorem ofL_del_ne (h : ¬ dig key lv = i) : ofL lv i (delL L key) = ofL lv i L := by
  rw [ofL_del]
  exact delL_none fun x hx e => h (by rw [← e]; exact (ofL_mem.1 hx).2)
theorem ofL_put (h : dig key lv = i) : ofL lv i (putM L key v) = putM (ofL lv i L) key v := by
  have e : ofL lv i (putM L key v) = ⟨key, v⟩ :: ofL lv i (delL L key) := by
    show List.filter _ (_ :: _) = _
    rw [List.filter_cons, if_pos (by simpa using h)]; rfl
  rw [e, ofL_del]; rfl
theorem ofL_put_ne (h : ¬ dig key lv = i) : ofL lv i (putM L key v) = ofL lv i L := by
  have e : ofL lv i (putM L key v) = ofL lv i (delL L key) := by
    show List.filter _ (_ :: _) = _
    rw [List.filter_cons, if_neg (by simpa using h)]; rfl
  rw [e, ofL_del_ne h]
theorem Ap.of (h : Ap L) (lv i : Nat) : Ap (ofL lv i L) := h.filter _
end
def cnt : Nat → List It → Nat
  | 0, l => if l.length ≤ 1 then l.length else 1 + l.length
  | k + 1, l => if l.length ≤ 1 then l.length else 1 + (cnt k (ofL (9 - k) 0 l) + cnt k (ofL (9 - k) 1 l) + cnt k (ofL (9 - k) 2 l) + cnt k (ofL (9 - k) 3 l))
theorem cnt_few {k : Nat} {l : List It} (h : l.length ≤ 1) : cnt k l = l.length := by cases k <;> (rw [cnt]; exact if_pos h)
theorem cnt_0 {l : List It} (h : 2 ≤ l.length) : cnt 0 l = 1 + l.length := by rw [cnt]; exact if_neg (by omega)
theorem cnt_s {k : Nat} {l : List It} (h : 2 ≤ l.length) : cnt (k + 1) l = 1 + (cnt k (ofL (9 - k) 0 l) + cnt k (ofL (9 - k) 1 l) + cnt k (ofL (9 - k) 2 l) + cnt k (ofL (9 - k) 3 l)) := by rw [cnt]; exact if_neg (by omega)
theorem cnt_perm : ∀ {k : Nat} {l m : List It}, l.Perm m → cnt k l = cnt k m
  | k, l, m, p => by
    have e := p.length_eq
    by_cases h : l.length ≤ 1
    · rw [cnt_few h, cnt_few (by omega), e]
    · cases k with
      | zero => rw [cnt_0 (by omega), cnt_0 (by omega), e]
      | succ k =>
        have q : ∀ i, cnt k (ofL (9 - k) i l) = cnt k (ofL (9 - k) i m) := fun i => cnt_perm (k := k) (p.filter _)
        rw [cnt_s (by omega), cnt_s (by omega), q, q, q, q]
theorem cnt_le : ∀ (k : Nat) (l : List It), cnt k l ≤ (k + 2) * l.length
  | k, l => by
    by_cases h : l.length ≤ 1
    · rw [cnt_few h]; exact Nat.le_mul_of_pos_left _ (by omega)
    · cases k with
      | zero => rw [cnt_0 (by omega)]; omega
      | succ k =>
        rw [cnt_s (by omega)]
        have h0 := cnt_le k (ofL (9 - k) 0 l)
        have h1 := cnt_le k (ofL (9 - k) 1 l)
        have h2 := cnt_le k (ofL (9 - k) 2 l)
        have h3 := cnt_le k (ofL (9 - k) 3 l)
        have hp := part_len (9 - k) l
        have e : (k + 1 + 2) * l.length = (k + 2) * (ofL (9 - k) 0 l).length + (k + 2) * (ofL (9 - k) 1 l).length + (k + 2) * (ofL (9 - k) 2 l).length + (k + 2) * (ofL (9 - k) 3 l).length + l.length := by
          rw [← Nat.mul_add, ← Nat.mul_add, ← Nat.mul_add, hp, show k + 1 + 2 = (k + 2) + 1 by omega, Nat.succ_mul]
        omega
theorem cnt_of {k i : Nat} {l : List It} (h : 2 ≤ l.length) (hi : i < 4) : 1 + cnt k (ofL (9 - k) i l) ≤ cnt (k + 1) l := by
  rw [cnt_s h]
  rcases (show i = 0 ∨ i = 1 ∨ i = 2 ∨ i = 3 by omega) with rfl | rfl | rfl | rfl <;> omega
theorem hN_may {A : Ar} {kd n v s : Int} {ks : List Int} (hA : AOk A) (h1 : 1 ≤ kd) (h2 : kd ≤ 100) (h : ∀ k ∈ ks, rightR k = true) : mayMake A (hN kd 0 n v s ks) := by
  refine ⟨hA, h1, h2, (well_iff _).2 ⟨⟨Int.le_refl 0, (show (0 : Int) ≤ 1048576 by omega), Int.le_refl 0, (show (0 : Int) ≤ 9 by omega), Int.le_refl 0, (show (0 : Int) ≤ 9 by omega)⟩, ?_⟩⟩
  have hz : ∀ i, rightR (ks.getD i 0) = true := fun i => by
    rw [List.getD_eq_getElem?_getD]
    cases h2 : ks[i]? with
    | none => exact (rightR_iff 0).2 (.inl rfl)
    | some x => exact h x (List.mem_of_getElem? h2)
  simp only [x0, hN, Node.kids, List.all_cons, List.all_nil, hz, Bool.and_true]
theorem getD_of {l : List Int} {x : Int} (h : x ∈ l) : ∃ i, i < l.length ∧ l.getD i 0 = x := by
  obtain ⟨i, hi⟩ := List.getElem?_of_mem h
  exact ⟨i, lt_of_get hi, by rw [List.getD_eq_getElem?_getD, hi]; rfl⟩
theorem mk_leaf {s s' : St} {key v r : Int} (hA : AOk s.1) (hm : MkX s (hN 3 0 key v 0 []) s' r) : Gs 1 s s' ∧ (s'.2 = 0 → lfA s'.1 r ⟨key, v⟩) := by
  refine ⟨hm.gs hA (fun _ => hN_may hA (by decide) (by decide) (fun k h => by cases h)), fun h0 => ?_⟩
  obtain ⟨_, _, _, hg, _⟩ := hm.get h0
  exact ⟨_, hg⟩
theorem sum4 {A : Ar} {ks : List Int} {a b c d : Nat} (h0 : szH A (ks.getD 0 0) = a) (h1 : szH A (ks.getD 1 0) = b) (h2 : szH A (ks.getD 2 0) = c) (h3 : szH A (ks.getD 3 0) = d) (hl : a + b + c + d ≤ 1000000) : sumH A ks 4 = ((a + b + c + d : Nat) : Int) := by
  simp only [sumH, h0, h1, h2, h3]
  have e1 : IntKind.i64.wrap (0 + (a : Int)) = a := (wrap_i64 (by omega)).trans (by omega)
  rw [e1]
  have e2 : IntKind.i64.wrap ((a : Int) + b) = ((a + b : Nat) : Int) := (wrap_i64 (by omega)).trans (by omega)
  rw [e2]
  have e3 : IntKind.i64.wrap (((a + b : Nat) : Int) + c) = ((a + b + c : Nat) : Int) := (wrap_i64 (by omega)).trans (by omega)
  rw [e3]
  exact (wrap_i64 (by omega)).trans (by omega)
theorem mk_trie {s s' : St} {k : Nat} {ks : List Int} {r : Int} {L : List It} (hA : AOk s.1) (hl : ks.length = 4) (h : s.2 = 0 → ∀ i, i < 4 → IsH s.1 k (ks.getD i 0) (ofL (9 - k) i L)) (h2 : s.2 = 0 → 2 ≤ L.length) (h3 : L.length ≤ 1000000) (hm : MkX s (hN 2 0 0 0 (sumH s.1 ks ks.length) ks) s' r) : Gs 1 s s' ∧ (s'.2 = 0 → IsH s'.1 (k + 1) r L) := by
  refine ⟨hm.gs hA (fun h0 => hN_may hA (by decide) (by decide) (fun x hx => ?_)), fun h0 => ?_⟩
  · obtain ⟨i, hi, rfl⟩ := getD_of hx
    exact (h h0 i (by omega)).right
  · obtain ⟨h1, _, _, hg, he⟩ := hm.get h0
    have hk := h h1
    have hs := sum4 (hk 0 (by omega)).size (hk 1 (by omega)).size (hk 2 (by omega)).size (hk 3 (by omega)).size (by rw [part_len]; omega)
    rw [part_len] at hs
    refine (isH_trie (h2 h1)).2 ⟨genAt s.1 (lastAt s.1), ks, hl, ?_, fun i hi => (hk i hi).ext he⟩
    rw [hg, hl, hs]; rfl
theorem sum1 {A : Ar} {ks : List Int} : ∀ n : Nat, n ≤ 1000000 → (∀ i, i < n → szH A (ks.getD i 0) = 1) → sumH A ks n = n
  | 0, _, _ => rfl
  | n + 1, hn, h => by
    rw [sumH, sum1 n (by omega) (fun i hi => h i (by omega)), h n (by omega)]
    exact (wrap_i64 (by omega)).trans (by omega)
theorem mk_clash {s s' : St} {ks : List Int} {r : Int} {m L : List It} (hA : AOk s.1) (hp : m.Perm L) (hs : Srt m) (hl : ks.length = m.length) (h9 : s.2 = 0 → m.length ≤ 9) (h2 : s.2 = 0 → 2 ≤ m.length) (h : s.2 = 0 → ∀ i x, m[i]? = some x → lfA s.1 (ks.getD i 0) x) (hm : MkX s (hN 4 0 0 0 (sumH s.1 ks ks.length) ks) s' r) : Gs 1 s s' ∧ (s'.2 = 0 → IsH s'.1 0 r L) := by
  have lf : s.2 = 0 → ∀ i, i < m.length → ∃ x, m[i]? = some x ∧ lfA s.1 (ks.getD i 0) x := fun h0 i hi => by
    obtain ⟨x, hx⟩ := getSome (l := m) (i := i) hi
    exact ⟨x, hx, h h0 i x hx⟩
  refine ⟨hm.gs hA (fun h0 => hN_may hA (by decide) (by decide) (fun x hx => ?_)), fun h0 => ?_⟩
  · obtain ⟨i, hi, rfl⟩ := getD_of hx
    obtain ⟨x, _, hx⟩ := lf h0 i (by omega)
    exact hx.right
  · obtain ⟨h1, _, _, hg, he⟩ := hm.get h0
    have hsum := sum1 (A := s.1) (ks := ks) m.length (by have := h9 h1; omega) (fun i hi => by obtain ⟨x, _, hx⟩ := lf h1 i hi; exact hx.size)
    refine (isH_clash (by rw [← hp.length_eq]; exact h2 h1)).2 ⟨genAt s.1 (lastAt s.1), ks, m, hp, hs, h9 h1, hl, ?_, fun i x hx => (h h1 i x hx).ext he⟩
    rw [hg, hl, hsum]; rfl
def HoQ (n : Nat) (s s' : St) : Prop := Gs n s s' ∧ (¬ s.2 = 0 → s' = s)
theorem MkX.bad {s s' : St} {x : Node} {r : Int} (h : MkX s x s' r) (hb : ¬ s.2 = 0) : s' = s := by
  rcases h with ⟨_, h, _⟩ | ⟨h, _⟩ | ⟨h, _⟩ | ⟨h, _⟩
  · exact h
  all_goals exact absurd h hb
theorem cnt_pair0 (x y : It) : cnt 0 [x, y] = 3 := rfl
theorem of_both {lv i : Nat} {x y : It} (h1 : dig x.k lv = i) (h2 : dig y.k lv = i) : ofL lv i [x, y] = [x, y] := by simp [ofL, List.filter_cons, h1, h2]
theorem of_none {lv i : Nat} {x y : It} (h1 : ¬ dig x.k lv = i) (h2 : ¬ dig y.k lv = i) : ofL lv i [x, y] = [] := by simp [ofL, List.filter_cons, h1, h2]
theorem of_fst {lv i : Nat} {x y : It} (h1 : dig x.k lv = i) (h2 : ¬ dig y.k lv = i) : ofL lv i [x, y] = [x] := by simp [ofL, List.filter_cons, h1, h2]
theorem of_snd {lv i : Nat} {x y : It} (h1 : ¬ dig x.k lv = i) (h2 : dig y.k lv = i) : ofL lv i [x, y] = [y] := by simp [ofL, List.filter_cons, h1, h2]
theorem cnt_nil (k : Nat) : cnt k [] = 0 := cnt_few (by simp)
theorem cnt_pairE {k : Nat} {x y : It} (h : dig x.k (9 - k) = dig y.k (9 - k)) : cnt (k + 1) [x, y] = 1 + cnt k [x, y] := by
  have hd := dig_lt x.k (9 - k)
  rw [cnt_s (by simp)]
  rcases (show dig x.k (9 - k) = 0 ∨ dig x.k (9 - k) = 1 ∨ dig x.k (9 - k) = 2 ∨ dig x.k (9 - k) = 3 by omega) with q | q | q | q
  · rw [of_both q (by omega), of_none (by omega) (by omega), of_none (by omega) (by omega), of_none (by omega) (by omega), cnt_nil]; omega
  · rw [of_none (by omega) (by omega), of_both q (by omega), of_none (by omega) (by omega), of_none (by omega) (by omega), cnt_nil]; omega
  · rw [of_none (by omega) (by omega), of_none (by omega) (by omega), of_both q (by omega), of_none (by omega) (by omega), cnt_nil]; omega
  · rw [of_none (by omega) (by omega), of_none (by omega) (by omega), of_none (by omega) (by omega), of_both q (by omega), cnt_nil]; omega
theorem cnt_pairN {k : Nat} {x y : It} (h : ¬ dig x.k (9 - k) = dig y.k (9 - k)) : cnt (k + 1) [x, y] = 3 := by
  have e : ∀ i, cnt k (ofL (9 - k) i [x, y]) = (ofL (9 - k) i [x, y]).length := fun i => cnt_few (by
    by_cases h1 : dig x.k (9 - k) = i
    · rw [of_fst h1 (by omega)]; simp
    · by_cases h2 : dig y.k (9 - k) = i
      · rw [of_snd h1 h2]; simp
      · rw [of_none h1 h2]; simp)
  have hp := part_len (9 - k) [x, y]
  rw [cnt_s (by simp), e, e, e, e, hp]; rfl
theorem cnt_pair_ge {x y : It} : ∀ k, 3 ≤ cnt k [x, y]
  | 0 => by rw [cnt_pair0]; exact Nat.le_refl _
  | k + 1 => by
    have := cnt_pair_ge (x := x) (y := y) k
    by_cases h : dig x.k (9 - k) = dig y.k (9 - k)
    · rw [cnt_pairE h]; omega
    · rw [cnt_pairN h]; exact Nat.le_refl _
theorem pair_same {k i : Nat} {x y : It} {s s1 s2 : St} {r1 r : Int} (hi : i < 4) (hA : AOk s.1) (hd : s.2 = 0 → dig x.k (9 - k) = i ∧ dig y.k (9 - k) = i) (g1 : HoQ (cnt k [x, y] - 2) s s1) (h1 : s1.2 = 0 → IsH s1.1 k r1 [x, y]) {ks : List Int} (hks : ks = (List.replicate 4 0).set i r1) (hm : MkX s1 (hN 2 0 0 0 (sumH s1.1 ks ks.length) ks) s2 r) : HoQ (cnt (k + 1) [x, y] - 2) s s2 ∧ (s2.2 = 0 → IsH s2.1 (k + 1) r [x, y]) := by
  have hge := cnt_pair_ge (x := x) (y := y) k
  have hl : ks.length = 4 := by rw [hks]; simp
  have hself : ks.getD i 0 = r1 := by rw [hks, List.getD_eq_getElem?_getD, List.getElem?_set_self (by simpa using hi)]; rfl
  have hoth : ∀ j, ¬ j = i → ks.getD j 0 = 0 := fun j hj => by
    rw [hks, List.getD_eq_getElem?_getD, List.getElem?_set_ne (by omega), List.getElem?_replicate]
    split <;> rfl
  have key := mk_trie (L := [x, y]) (k := k) g1.1.ok hl (fun h0 j hj => by
    obtain ⟨d1, d2⟩ := hd (g1.1.back h0)
    by_cases e : j = i
    · rw [e, hself, of_both d1 d2]; exact h1 h0
    · rw [hoth j e, of_none (by omega) (by omega)]; exact isH_nil.2 rfl) (fun _ => by simp) (by simp) hm
  by_cases hs : s.2 = 0
  · obtain ⟨d1, d2⟩ := hd hs
    rw [cnt_pairE (by omega)]
    exact ⟨⟨(g1.1.trans key.1).mono (by omega), fun h => absurd hs h⟩, key.2⟩
  · have e1 := g1.2 hs
    have e2 := hm.bad (by rw [e1]; exact hs)
    rw [e2, e1]
    exact ⟨⟨(Gs.refl hA).mono (by omega), fun _ => rfl⟩, fun h => absurd h hs⟩
theorem pair_unlike {k i j : Nat} {x y : It} {s s2 : St} {a b r : Int} (hi : i < 4) (hj : j < 4) (hij : ¬ i = j) (hA : AOk s.1) (hd : s.2 = 0 → dig x.k (9 - k) = i ∧ dig y.k (9 - k) = j ∧ lfA s.1 a x ∧ lfA s.1 b y) {ks : List Int} (hks : ks = ((List.replicate 4 0).set i a).set j b) (hm : MkX s (hN 2 0 0 0 (sumH s.1 ks ks.length) ks) s2 r) : HoQ (cnt (k + 1) [x, y] - 2) s s2 ∧ (s2.2 = 0 → IsH s2.1 (k + 1) r [x, y]) := by
  have hl : ks.length = 4 := by rw [hks]; simp
  have hsi : ks.getD i 0 = a := by rw [hks, List.getD_eq_getElem?_getD, List.getElem?_set_ne (by omega), List.getElem?_set_self (by simpa using hi)]; rfl
  have hsj : ks.getD j 0 = b := by rw [hks, List.getD_eq_getElem?_getD, List.getElem?_set_self (by simpa using hj)]; rfl
  have hoth : ∀ q, ¬ q = i → ¬ q = j → ks.getD q 0 = 0 := fun q h1 h2 => by
    rw [hks, List.getD_eq_getElem?_getD, List.getElem?_set_ne (by omega), List.getElem?_set_ne (by omega), List.getElem?_replicate]
    split <;> rfl
  have key := mk_trie (L := [x, y]) (k := k) hA hl (fun h0 q hq => by
    obtain ⟨d1, d2, d3, d4⟩ := hd h0
    by_cases e : q = i
    · rw [e, hsi, of_fst d1 (by omega)]; exact isH_one.2 d3
    · by_cases e2 : q = j
      · rw [e2, hsj, of_snd (by omega) d2]; exact isH_one.2 d4
      · rw [hoth q e e2, of_none (by omega) (by omega)]; exact isH_nil.2 rfl) (fun _ => by simp) (by simp) hm
  by_cases hs : s.2 = 0
  · obtain ⟨d1, d2, _⟩ := hd hs
    rw [cnt_pairN (by omega)]
    exact ⟨⟨key.1, fun h => absurd hs h⟩, key.2⟩
  · have e2 := hm.bad hs
    rw [e2]
    exact ⟨⟨(Gs.refl hA).mono (by omega), fun _ => rfl⟩, fun h => absurd h hs⟩
theorem pair_last {x y : It} {s s2 : St} {r : Int} (hne : ¬ x.k = y.k) (hA : AOk s.1) {ks : List Int} (hks : s.2 = 0 → ∃ a b, lfA s.1 a x ∧ lfA s.1 b y ∧ (x.k < y.k ∧ ks = [a, b] ∨ y.k < x.k ∧ ks = [b, a])) (hl : ks.length = 2) (hm : MkX s (hN 4 0 0 0 (sumH s.1 ks ks.length) ks) s2 r) : HoQ (cnt 0 [x, y] - 2) s s2 ∧ (s2.2 = 0 → IsH s2.1 0 r [x, y]) := by
  have hm2 : ∃ m, List.Perm m [x, y] ∧ Srt m ∧ (s.2 = 0 → ∀ i z, m[i]? = some z → lfA s.1 (ks.getD i 0) z) := by
    by_cases hs : s.2 = 0
    · obtain ⟨a, b, h1, h2, h3⟩ := hks hs
      rcases h3 with ⟨h3, rfl⟩ | ⟨h3, rfl⟩
      · refine ⟨[x, y], List.Perm.refl _, ?_, fun _ i z hz => ?_⟩
        · refine List.pairwise_cons.2 ⟨fun z hz => ?_, List.pairwise_singleton _ _⟩
          rw [List.mem_singleton.1 hz]; exact h3
        · rcases i with _ | _ | i
          · cases hz; exact h1
          · cases hz; exact h2
          · cases hz
      · refine ⟨[y, x], List.Perm.swap _ _ _, ?_, fun _ i z hz => ?_⟩
        · refine List.pairwise_cons.2 ⟨fun z hz => ?_, List.pairwise_singleton _ _⟩
          rw [List.mem_singleton.1 hz]; exact h3
        · rcases i with _ | _ | i
          · cases hz; exact h2
          · cases hz; exact h1
          · cases hz
    · rcases Int.lt_or_lt_of_ne hne with h3 | h3
      · refine ⟨[x, y], List.Perm.refl _, ?_, fun h => absurd h hs⟩
        refine List.pairwise_cons.2 ⟨fun z hz => ?_, List.pairwise_singleton _ _⟩
        rw [List.mem_singleton.1 hz]; exact h3
      · refine ⟨[y, x], List.Perm.swap _ _ _, ?_, fun h => absurd h hs⟩
        refine List.pairwise_cons.2 ⟨fun z hz => ?_, List.pairwise_singleton _ _⟩
        rw [List.mem_singleton.1 hz]; exact h3
  obtain ⟨m, h1, h2, h3⟩ := hm2
  have hml := h1.length_eq
  have hml2 : m.length = 2 := hml
  have key := mk_clash hA h1 h2 (by omega) (fun _ => by omega) (fun _ => by omega) h3 hm
  exact ⟨⟨key.1, fun h => hm.bad h⟩, key.2⟩
theorem Ext.gs {A : Ar} {n : Nat} {s s' : St} (h : Ext A s.1) (g : Gs n s s') : Ext A s'.1 := h.trans g.ext
theorem HoQ.mono {n m : Nat} {s s' : St} (h : HoQ n s s') (hn : n ≤ m) : HoQ m s s' := ⟨h.1.mono hn, h.2⟩
theorem HoQ.trans {n m : Nat} {a b c : St} (h : HoQ n a b) (k : HoQ m b c) : HoQ (n + m) a c := ⟨h.1.trans k.1, fun e => by have e1 := h.2 e; rw [k.2 (by rw [e1]; exact e), e1]⟩
theorem MkX.hq {n : Nat} {s s' : St} {x : Node} {r : Int} (hm : MkX s x s' r) (h : Gs n s s') : HoQ n s s' := ⟨h, hm.bad⟩
theorem put_leaf {k : Nat} {s s' : St} {L : List It} {key v r : Int} (hA : AOk s.1) (hL : delL L key = []) (hm : MkX s (hN 3 0 key v 0 []) s' r) : HoQ (cnt k (putM L key v)) s s' ∧ (s'.2 = 0 → IsH s'.1 k r (putM L key v)) := by
  have h := mk_leaf hA hm
  have e : putM L key v = [⟨key, v⟩] := by unfold putM; rw [hL]
  rw [e, cnt_few (by simp)]
  exact ⟨hm.hq h.1, fun h0 => isH_one.2 (h.2 h0)⟩
theorem put_pair {k : Nat} {s s1 s2 : St} {x : It} {key v r r1 : Int} (hne : ¬ x.k = key) (hA : AOk s.1) (hm : MkX s (hN 3 0 key v 0 []) s1 r1) (h : HoQ (cnt k [x, ⟨key, v⟩] - 2) s1 s2) (h2 : s2.2 = 0 → IsH s2.1 k r [x, ⟨key, v⟩]) : HoQ (cnt k (putM [x] key v)) s s2 ∧ (s2.2 = 0 → IsH s2.1 k r (putM [x] key v)) := by
  have e : putM [x] key v = [⟨key, v⟩, x] := by unfold putM; rw [delL_none (fun y hy => by rw [List.mem_singleton.1 hy]; exact hne)]
  have p : List.Perm [x, ⟨key, v⟩] [(⟨key, v⟩ : It), x] := List.Perm.swap _ _ _
  have hg := mk_leaf hA hm
  have h3 := cnt_pair_ge (x := x) (y := ⟨key, v⟩) k
  rw [e, ← cnt_perm p]
  exact ⟨((hm.hq hg.1).trans h).mono (by omega), fun h0 => (h2 h0).perm p⟩
theorem put_trie {k i : Nat} {A0 : Ar} {s s1 s2 : St} {L : List It} {key v r r1 : Int} {ks0 ks : List Int} (hap : Ap L) (hl2 : 2 ≤ L.length) (hl3 : L.length ≤ 1000) (hi : dig key (9 - k) = i) (hl0 : ks0.length = 4) (hk : ∀ j, j < 4 → IsH A0 k (ks0.getD j 0) (ofL (9 - k) j L)) (hE : Ext A0 s.1) (g1 : HoQ (cnt k (putM (ofL (9 - k) i L) key v)) s s1) (h1 : s1.2 = 0 → IsH s1.1 k r1 (putM (ofL (9 - k) i L) key v)) (hks : ks = ks0.set i r1) (hm : MkX s1 (hN 2 0 0 0 (sumH s1.1 ks ks.length) ks) s2 r) : HoQ (cnt (k + 1) (putM L key v)) s s2 ∧ (s2.2 = 0 → IsH s2.1 (k + 1) r (putM L key v)) := by
  have hi4 : i < 4 := hi ▸ dig_lt _ _
  have hlen := putM_len (key := key) (v := v) hap
  have hp2 : 2 ≤ (putM L key v).length := by split at hlen <;> omega
  have hp3 : (putM L key v).length ≤ 1000000 := by omega
  have key1 := mk_trie (L := putM L key v) (k := k) g1.1.ok (by rw [hks, List.length_set]; exact hl0) (fun h0 j hj => by
    by_cases e : j = i
    · rw [e, hks, List.getD_eq_getElem?_getD, List.getElem?_set_self (by omega), ofL_put hi]; exact h1 h0
    · rw [hks, List.getD_eq_getElem?_getD, List.getElem?_set_ne (by omega), ← List.getD_eq_getElem?_getD, ofL_put_ne (by omega)]
      exact (hk j hj).ext (hE.trans g1.1.ext)) (fun _ => hp2) hp3 hm
  have hc := cnt_of (k := k) hp2 hi4
  rw [ofL_put hi] at hc
  exact ⟨(g1.trans (hm.hq key1.1)).mono (by omega), key1.2⟩
/-- there is room for a key among those of its hash -/
def Room (key : Int) (L : List It) : Prop := hasK L key = false → (L.filter fun x => decide (hashOf x.k = hashOf key)).length ≤ 8
theorem Room.of {key : Int} {L : List It} {lv : Nat} (h : Room key L) : Room key (ofL lv (dig key lv) L) := by
  intro hn
  have h0 : hasK L key = false := hasK_no fun x hx e => by rw [hasK_iff.2 ⟨x, ofL_mem.2 ⟨hx, by rw [e]⟩, e⟩] at hn; cases hn
  refine Nat.le_trans (List.Sublist.length_le ?_) (h h0)
  exact (List.filter_sublist).filter _
/-- where a key has its place among rising keys -/
theorem srt_place {m : List It} (hs : Srt m) (key : Int) {n : Nat} (hn : n ≤ m.length) (h1 : ∀ j x, j < n → m[j]? = some x → x.k < key) (h2 : ∀ j x, n ≤ j → m[j]? = some x → ¬ x.k < key) : ltL key m = m.take n ∧ (∀ x, m[n]? = some x → x.k = key → gtL key m = m.drop (n + 1)) ∧ ((∀ x, m[n]? = some x → ¬ x.k = key) → gtL key m = m.drop n ∧ hasK m key = false) := by
  have ht : ∀ y ∈ m.take n, y.k < key := fun y hy => by
    obtain ⟨j, hj⟩ := List.getElem?_of_mem hy
    have := lt_of_get hj
    rw [List.length_take] at this
    rw [List.getElem?_take_of_lt (by omega)] at hj
    exact h1 j y (by omega) hj
  have hd : ∀ y ∈ m.drop n, ¬ y.k < key := fun y hy => by
    obtain ⟨j, hj⟩ := List.getElem?_of_mem hy
    rw [List.getElem?_drop] at hj
    exact h2 _ y (by omega) hj
  have e := List.take_append_drop n m
  have a1 : ltL key (m.take n) = m.take n := filter_all fun y hy => by simpa using ht y hy
  have a2 : ltL key (m.drop n) = [] := filter_none fun y hy => by simpa using hd y hy
  have a3 : gtL key (m.take n) = [] := filter_none fun y hy => by have := ht y hy; simp; omega
  have l1 : ltL key m = ltL key (m.take n) ++ ltL key (m.drop n) := by
    conv => lhs; rw [← e]
    exact List.filter_append _ _
  have l2 : gtL key m = gtL key (m.take n) ++ gtL key (m.drop n) := by
    conv => lhs; rw [← e]
    exact List.filter_append _ _
  refine ⟨by rw [l1, a1, a2, List.append_nil], fun x hx hk => ?_, fun hno => ?_⟩
  · have hlt := lt_of_get hx
    have e3 : m.drop n = x :: m.drop (n + 1) := by rw [List.drop_eq_getElem_cons hlt, getElem_of hx]
    rw [l2, a3, List.nil_append, e3]
    unfold gtL
    rw [List.filter_cons, if_neg (by simp; omega)]
    refine filter_all fun y hy => ?_
    have hs2 : Srt (m.drop n) := List.Pairwise.sublist (List.drop_sublist _ _) hs
    rw [e3] at hs2
    have := (List.pairwise_cons.1 hs2).1 y hy
    simp; omega
  · have hall : ∀ y ∈ m.drop n, key < y.k := fun y hy => by
      obtain ⟨j, hj⟩ := List.getElem?_of_mem hy
      rw [List.getElem?_drop] at hj
      have h3 := h2 _ y (by omega) hj
      by_cases q : j = 0
      · subst q
        have := hno y hj
        omega
      · obtain ⟨z, hz⟩ := getSome (l := m) (i := n) (by have := lt_of_get hj; omega)
        have h4 := h2 n z (Nat.le_refl _) hz
        have := List.pairwise_iff_getElem.1 hs n (n + j) (lt_of_get hz) (lt_of_get hj) (by omega)
        rw [getElem_of hz, getElem_of hj] at this
        omega
    refine ⟨by rw [l2, a3, List.nil_append]; exact filter_all fun y hy => by simpa using hall y hy, hasK_no fun y hy e2 => ?_⟩
    rw [← e] at hy
    rcases List.mem_append.1 hy with hy | hy
    · have := ht y hy; omega
    · have := hall y hy; omega
def cmpH (a b : Int) : Int := if a < b then -1 else if b < a then 1 else 0
theorem cmpH_lt {a b : Int} : cmpH a b < 0 ↔ a < b := by unfold cmpH; split <;> (try split) <;> omega
theorem cmpH_eq {a b : Int} : cmpH a b = 0 ↔ a = b := by unfold cmpH; split <;> (try split) <;> omega
/-- the references of a node that are some -/
def kidsL (y : Node) : List Int := y.kids.filter fun r => !decide (r = 0)
theorem kidsL_take {y : Node} {n : Nat} (hn : n ≤ 9) (h1 : ∀ i, i < n → ¬ y.kids.getD i 0 = 0) (h2 : ∀ i, n ≤ i → i < 9 → y.kids.getD i 0 = 0) : kidsL y = y.kids.take n := by
  have hl : y.kids.length = 9 := rfl
  unfold kidsL
  conv => lhs; rw [← List.take_append_drop n y.kids]
  rw [List.filter_append, List.filter_eq_self.2 ?_, List.filter_eq_nil_iff.2 ?_, List.append_nil]
  · intro z hz
    obtain ⟨j, hj⟩ := List.getElem?_of_mem hz
    rw [List.getElem?_drop] at hj
    have := lt_of_get hj
    have h3 := h2 (n + j) (by omega) (by omega)
    rw [List.getD_eq_getElem?_getD, hj] at h3
    simpa using h3
  · intro z hz
    obtain ⟨j, hj⟩ := List.getElem?_of_mem hz
    have h5 := lt_of_get hj
    rw [List.length_take] at h5
    rw [List.getElem?_take_of_lt (by omega)] at hj
    have h3 := h1 j (by omega)
    rw [List.getD_eq_getElem?_getD, hj] at h3
    simpa using h3
theorem Room.last {key : Int} {L : List It} (h : Room key L) (hf : Fam 10 (hashOf key % 4 ^ 10) L) (hn : hasK L key = false) : L.length ≤ 8 := by
  have h1 := h hn
  rw [filter_all fun y hy => ?_] at h1
  · exact h1
  · have h2 := hf y hy
    have h3 := hashOf_lt y.k
    have h4 := hashOf_lt key
    have h5 : (4 : Nat) ^ 10 = 1048576 := rfl
    rw [h5, Nat.mod_eq_of_lt h3, Nat.mod_eq_of_lt h4] at h2
    simpa using h2
theorem hasK_perm {key : Int} {L M : List It} (p : L.Perm M) : hasK L key = hasK M key := by
  rw [Bool.eq_iff_iff, hasK_iff, hasK_iff]
  exact ⟨fun ⟨y, hy, e⟩ => ⟨y, p.mem_iff.1 hy, e⟩, fun ⟨y, hy, e⟩ => ⟨y, p.mem_iff.2 hy, e⟩⟩
/-- the node of leaves anew -/
theorem put_clash {A0 : Ar} {s s1 s2 : St} {m L : List It} {key v r r1 : Int} {ks0 ks : List Int} {n : Nat} (hp : m.Perm L) (hs : Srt m) (hl : ks0.length = m.length) (hl2 : 2 ≤ m.length) (h9 : m.length ≤ 9) (hA : AOk s.1) (hE : Ext A0 s.1) (hk : ∀ i x, m[i]? = some x → lfA A0 (ks0.getD i 0) x) (hm1 : MkX s (hN 3 0 key v 0 []) s1 r1) (hn : n ≤ m.length) (h1 : ∀ j x, j < n → m[j]? = some x → x.k < key) (h2 : ∀ j x, n ≤ j → m[j]? = some x → ¬ x.k < key)
    (hks : (∃ x, m[n]? = some x ∧ x.k = key) ∧ ks = ks0.set n r1 ∨ (∀ x, m[n]? = some x → ¬ x.k = key) ∧ m.length ≤ 8 ∧ ks = ks0.take n ++ r1 :: ks0.drop n) (hm : MkX s1 (hN 4 0 0 0 (sumH s1.1 ks ks.length) ks) s2 r) : HoQ (cnt 0 (putM L key v)) s s2 ∧ (s2.2 = 0 → IsH s2.1 0 r (putM L key v)) := by
  have hg1 := mk_leaf hA hm1
  obtain ⟨q1, q2, q3⟩ := srt_place hs key hn h1 h2
  have hsp : Srt (putL m key v) := hs.put
  have hpp : (putL m key v).Perm (putM L key v) := putL_putM.trans (putM_perm hp)
  have hx1 := hg1.1.ext
  have main : ks.length = (putL m key v).length ∧ (putL m key v).length ≤ 9 ∧ 2 ≤ (putL m key v).length ∧ (s1.2 = 0 → ∀ i x, (putL m key v)[i]? = some x → lfA s1.1 (ks.getD i 0) x) := by
    rcases hks with ⟨⟨x, hx, hxk⟩, rfl⟩ | ⟨hno, h8, rfl⟩
    · have hlt := lt_of_get hx
      have e : putL m key v = m.set n ⟨key, v⟩ := by
        unfold putL
        rw [q1, q2 x hx hxk, List.set_eq_take_append_cons_drop, if_pos hlt]
      rw [e, List.length_set, List.length_set]
      refine ⟨hl, h9, hl2, fun h0 i z hz => ?_⟩
      by_cases ei : i = n
      · subst ei
        rw [List.getElem?_set_self hlt] at hz
        cases hz
        rw [List.getD_eq_getElem?_getD, List.getElem?_set_self (by omega)]
        exact hg1.2 h0
      · rw [List.getElem?_set_ne (by omega)] at hz
        rw [List.getD_eq_getElem?_getD, List.getElem?_set_ne (by omega), ← List.getD_eq_getElem?_getD]
        exact ((hk i z hz).ext hE).ext hx1
    · have e : putL m key v = m.take n ++ ⟨key, v⟩ :: m.drop n := by
        unfold putL
        rw [q1, (q3 hno).1]
      have len : ∀ {α : Type} (l : List α) (x : α), n ≤ l.length → (l.take n ++ x :: l.drop n).length = l.length + 1 := fun l x h => by
        rw [List.length_append, List.length_cons, List.length_take, List.length_drop]; omega
      rw [e, len _ _ (by omega), len _ _ hn]
      refine ⟨by omega, by omega, by omega, fun h0 i z hz => ?_⟩
      have l1 : (m.take n).length = n := by rw [List.length_take]; omega
      have l2 : (ks0.take n).length = n := by rw [List.length_take]; omega
      rcases Nat.lt_trichotomy i n with c | c | c
      · rw [List.getElem?_append_left (by omega), List.getElem?_take_of_lt c] at hz
        rw [List.getD_eq_getElem?_getD, List.getElem?_append_left (by omega), List.getElem?_take_of_lt c, ← List.getD_eq_getElem?_getD]
        exact ((hk i z hz).ext hE).ext hx1
      · subst c
        rw [List.getElem?_append_right (by omega), l1, Nat.sub_self] at hz
        cases hz
        rw [List.getD_eq_getElem?_getD, List.getElem?_append_right (by omega), l2, Nat.sub_self]
        exact hg1.2 h0
      · obtain ⟨j, rfl⟩ : ∃ j, i = n + (j + 1) := ⟨i - n - 1, by omega⟩
        rw [List.getElem?_append_right (by omega), l1, show n + (j + 1) - n = j + 1 by omega, List.getElem?_cons_succ, List.getElem?_drop] at hz
        rw [List.getD_eq_getElem?_getD, List.getElem?_append_right (by omega), l2, show n + (j + 1) - n = j + 1 by omega, List.getElem?_cons_succ, List.getElem?_drop, ← List.getD_eq_getElem?_getD]
        exact ((hk _ z hz).ext hE).ext hx1
  obtain ⟨m1, m2, m3, m4⟩ := main
  have key2 := mk_clash hg1.1.ok hpp hsp m1 (fun _ => m2) (fun _ => m3) m4 hm
  have hpl := hpp.length_eq
  rw [cnt_0 (by omega)]
  exact ⟨((hm1.hq hg1.1).trans (hm.hq key2.1)).mono (by omega), key2.2⟩
end Go.Proofs.Ytbfjobmebkhblaa
