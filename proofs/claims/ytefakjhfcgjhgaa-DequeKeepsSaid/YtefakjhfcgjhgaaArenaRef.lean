/-
  The reference of the layer arena.
-/
import Derived.Test.YtefakjhfcgjhgaaArena
set_option linter.unusedVariables false
set_option linter.unusedSimpArgs false
namespace Go.Proofs.Ytefakjhfcgjhgaa
open Go Go.XL

structure Pre3 (A : Ar) (i : Nat) : Prop where
  at_ : ∀ (j : Nat) x, A.nodes[j]? = some x → j < i → well x = true ∧ A.free.count (j : Int) ≤ 1 ∧ (x.kind = 0 ↔ A.free.count (j : Int) = 1) ∧ (A.free.count (j : Int) = 1 → x = bareN x.gen)
theorem Pre3.succ {A : Ar} {i : Nat} {x : Node} (h : Pre3 A i) (hx : A.nodes[i]? = some x) (hr : well x = true ∧ A.free.count (i : Int) ≤ 1 ∧ (x.kind = 0 ↔ A.free.count (i : Int) = 1) ∧ (A.free.count (i : Int) = 1 → x = bareN x.gen)) : Pre3 A (i + 1) :=
  ⟨fun j y hy hj => (Nat.lt_succ_iff_lt_or_eq.1 hj).elim (h.at_ j y hy) (fun e => by subst e; rw [hx] at hy; cases hy; exact hr)⟩
theorem mem_iff_count1 {l : List Int} {x : Int} (h : l.count x ≤ 1) : x ∈ l ↔ l.count x = 1 := by
  rw [← List.count_pos_iff]; omega
theorem Pre3.aok {A : Ar} (h1 : 1 ≤ A.nodes.length ∧ A.nodes.length ≤ 512 ∧ A.free.length ≤ A.nodes.length) (p1 : ∀ x ∈ A.free, 0 ≤ x ∧ x < A.nodes.length) (p3 : Pre3 A A.nodes.length) : AOk A := by
  have key : ∀ (i : Nat) x, A.nodes[i]? = some x → _ := fun i x hx => p3.at_ i x hx (lt_of_get hx)
  refine ⟨h1.1, h1.2.1, h1.2.2, p1, ?_, ?_, ?_, ?_⟩
  · rw [List.nodup_iff_count]
    intro a
    by_cases ha : a ∈ A.free
    · have hr := p1 a ha
      obtain ⟨x, hx⟩ := getSome (l := A.nodes) (i := a.toNat) (by omega)
      have := (key _ x hx).2.1
      rwa [Int.toNat_of_nonneg hr.1] at this
    · rw [List.count_eq_zero_of_not_mem ha]; omega
  · intro x hx
    obtain ⟨j, hj⟩ := List.getElem?_of_mem hx
    exact (key j x hj).1
  · intro i x hx
    have := key i x hx
    rw [mem_iff_count1 this.2.1]; exact this.2.2.1
  · intro i x hx hm
    have := key i x hx
    exact this.2.2.2 ((mem_iff_count1 this.2.1).1 hm)
theorem aok_at3 {A : Ar} (h : AOk A) {i : Nat} {x : Node} (hx : A.nodes[i]? = some x) : well x = true ∧ A.free.count (i : Int) ≤ 1 ∧ (x.kind = 0 ↔ A.free.count (i : Int) = 1) ∧ (A.free.count (i : Int) = 1 → x = bareN x.gen) := by
  have hc := (List.nodup_iff_count.1 h.nodup) (i : Int)
  have := aok_at h hx
  rw [mem_iff_count1 hc] at this
  exact ⟨this.1, hc, this.2.1, this.2.2⟩

theorem c_r4Right (A : Ar) (na fa : Option Addr) (nc fc : Nat) (w : World) (hA : ArR w na fa A) :
    FC Try.prog 40 [arV na fa nc fc A] w (Val (.bool (aokB A)) w) := by
  have hN := hA.nodes
  have hFr := hA.free
  refine FC.intro Try.func40 rfl Try.ntmps40 rfl ?_
  have S := Sub.refl w
  refine RC.seq ?_
  refine RC.region rfl ?_
  refine RL.box rfl rfl rfl (fun b_1 w_1 e_1 z_1 hb_1 s_1 => ?_)
  have ge_1 := S.le e_1
  have S := S.trans s_1
  have hb_1 : Has w_1 b_1 ([.slice na A.nodes.length nc, .slice fa A.free.length fc]) _ := hb_1
  refine RL.ev (.assign rfl) rfl rfl ?_
  refine RL.nil (RC.back ?_)
  refine RC.seq ?_
  refine RC.seq ?_
  refine RC.region rfl ?_
  refine RL.ev (.field0 fo26_0 rfl) rfl rfl ?_
  refine RL.ev (.load1 sh23 rfl (hb_1.cell rfl)) rfl rfl ?_
  refine RL.ev (.len sl23 rfl) rfl rfl ?_
  refine RL.ev (.bin rfl rfl rfl) rfl rfl ?_
  refine RL.ev (.move rfl) rfl rfl ?_
  refine RL.split 13 rfl (fun h1 => ?_) (fun h1 => ?_)
  ·
    refine RL.off rfl rfl ?_
    refine RL.off rfl rfl ?_
    refine RL.off rfl rfl ?_
    refine RL.off rfl rfl ?_
    refine RL.ev (.pick_t rfl rfl) rfl rfl ?_
    refine RL.ev (.move rfl) rfl rfl ?_
    refine RL.off rfl rfl ?_
    refine RL.off rfl rfl ?_
    refine RL.off rfl rfl ?_
    refine RL.off rfl rfl ?_
    refine RL.off rfl rfl ?_
    refine RL.off rfl rfl ?_
    refine RL.off rfl rfl ?_
    refine RL.ev (.pick_t rfl rfl) rfl rfl ?_
    refine RL.nil (RC.back ?_)
    refine RC.cond_t rfl ?_
    refine RC.seq ?_
    refine RC.region rfl ?_
    refine RL.ev (.assign rfl) rfl rfl ?_
    refine RL.nil (RC.back ?_)
    refine RC.done (rs := [.tmp 2]) (vs := [_]) rfl rfl ⟨rfl, trivial⟩ ?_
    -- end 1
    exact ⟨congrArg Value.bool (aokB_no (fun h => by have := h.one; have := h.most; have := h.fit; omega)).symm, S⟩
  ·
    refine RL.ev (.field0 fo26_0 rfl) rfl rfl ?_
    refine RL.ev (.load1 sh23 rfl (hb_1.cell rfl)) rfl rfl ?_
    refine RL.ev (.len sl23 rfl) rfl rfl ?_
    refine RL.ev (.bin rfl rfl rfl) rfl rfl ?_
    refine RL.ev (.pick_f rfl rfl) rfl rfl ?_
    refine RL.ev (.move rfl) rfl rfl ?_
    refine RL.split 19 rfl (fun h2 => ?_) (fun h2 => ?_)
    ·
      refine RL.off rfl rfl ?_
      refine RL.off rfl rfl ?_
      refine RL.off rfl rfl ?_
      refine RL.off rfl rfl ?_
      refine RL.off rfl rfl ?_
      refine RL.off rfl rfl ?_
      refine RL.off rfl rfl ?_
      refine RL.ev (.pick_t rfl rfl) rfl rfl ?_
      refine RL.nil (RC.back ?_)
      refine RC.cond_t rfl ?_
      refine RC.seq ?_
      refine RC.region rfl ?_
      refine RL.ev (.assign rfl) rfl rfl ?_
      refine RL.nil (RC.back ?_)
      refine RC.done (rs := [.tmp 2]) (vs := [_]) rfl rfl ⟨rfl, trivial⟩ ?_
      -- end 2
      exact ⟨congrArg Value.bool (aokB_no (fun h => by have := h.one; have := h.most; have := h.fit; omega)).symm, S⟩
    ·
      refine RL.ev (.field0 fo26_1 rfl) rfl rfl ?_
      refine RL.ev (.load1 sh24 rfl (hb_1.cell rfl)) rfl rfl ?_
      refine RL.ev (.len sl24 rfl) rfl rfl ?_
      refine RL.ev (.field0 fo26_0 rfl) rfl rfl ?_
      refine RL.ev (.load1 sh23 rfl (hb_1.cell rfl)) rfl rfl ?_
      refine RL.ev (.len sl23 rfl) rfl rfl ?_
      refine RL.ev (.bin rfl rfl rfl) rfl rfl ?_
      refine RL.ev (.pick_f rfl rfl) rfl rfl ?_
      refine RL.nil (RC.back ?_)
      refine RC.cond_dec rfl (fun h3 => ?_) (fun h3 => ?_)
      ·
        refine RC.seq ?_
        refine RC.region rfl ?_
        refine RL.ev (.assign rfl) rfl rfl ?_
        refine RL.nil (RC.back ?_)
        refine RC.done (rs := [.tmp 2]) (vs := [_]) rfl rfl ⟨rfl, trivial⟩ ?_
        -- end 3
        exact ⟨congrArg Value.bool (aokB_no (fun h => by have := h.one; have := h.most; have := h.fit; omega)).symm, S⟩
      ·
        refine RC.skip (RC.back ?_)
        refine RC.seq ?_
        refine RC.seq ?_
        refine RC.region rfl ?_
        refine RL.ev (.field0 fo26_1 rfl) rfl rfl ?_
        refine RL.ev (.load1 sh24 rfl (hb_1.cell rfl)) rfl rfl ?_
        refine RL.ev (.len sl24 rfl) rfl rfl ?_
        refine RL.ev (.move rfl) rfl rfl ?_
        refine RL.nil (RC.back ?_)
        refine RC.block ?_
        refine RC.loop (α := Nat) (fun i => [(1, .pointer (some ⟨b_1, 0, none⟩)), (29, .slice fa A.free.length fc), (30, .int .i64 (A.free.length : Int)), (31, .int .i64 (i : Int))]) (fun i w4 => i ≤ A.free.length ∧ (∀ (j : Nat) (x : Int), A.free[j]? = some x → j < i → 0 ≤ x ∧ x < A.nodes.length) ∧ Has w4 b_1 [.slice na A.nodes.length nc, .slice fa A.free.length fc] 26 ∧ Sub w w4) (fun i => A.free.length - i) 0 (keep_of (by repeat (first | exact trivial | refine And.intro rfl ?_))) (⟨Nat.zero_le _, fun j x _ h => absurd h (by omega), hb_1, S⟩) (fun i w4 hJ => ?_)
        obtain ⟨hi, hp, hb_1, S⟩ := hJ
        refine RC.seq ?_
        refine RC.region rfl ?_
        refine RL.ev (.bin rfl rfl rfl) rfl rfl ?_
        refine RL.nil (RC.back ?_)
        refine RC.seq ?_
        refine RC.cond_dec rfl (fun h5 => ?_) (fun h5 => ?_)
        ·
          obtain ⟨y, hy⟩ := getSome (l := A.free) (i := i) (by omega)
          refine RC.skip (RC.back ?_)
          refine RC.seq ?_
          refine RC.block ?_
          refine RC.seq ?_
          refine RC.region rfl ?_
          refine RL.ev (.indexS sl24 rfl rfl (by omega) (hFr.is (i := 0) (by simp only [List.length_map]; omega))) rfl rfl ?_
          refine RL.ev (.load1 sh3 rfl ((hFr.sub S).one (enc := i6) (i := i) hy)) rfl rfl ?_
          refine RL.ev (.assign rfl) rfl rfl ?_
          refine RL.nil (RC.back ?_)
          refine RC.seq ?_
          refine RC.region rfl ?_
          refine RL.ev (.move rfl) rfl rfl ?_
          refine RL.ev (.bin rfl rfl rfl) rfl rfl ?_
          refine RL.ev (.move rfl) rfl rfl ?_
          refine RL.split 37 rfl (fun h6 => ?_) (fun h6 => ?_)
          ·
            refine RL.off rfl rfl ?_
            refine RL.off rfl rfl ?_
            refine RL.off rfl rfl ?_
            refine RL.off rfl rfl ?_
            refine RL.off rfl rfl ?_
            refine RL.ev (.pick_t rfl rfl) rfl rfl ?_
            refine RL.nil (RC.back ?_)
            refine RC.cond_t rfl ?_
            refine RC.seq ?_
            refine RC.region rfl ?_
            refine RL.ev (.assign rfl) rfl rfl ?_
            refine RL.nil (RC.back ?_)
            refine RC.done (rs := [.tmp 2]) (vs := [_]) rfl rfl ⟨rfl, trivial⟩ ?_
            -- end 4
            exact ⟨congrArg Value.bool (aokB_no (fun h => by have := h.free y (List.mem_of_getElem? hy); omega)).symm, S⟩
          ·
            refine RL.ev (.move rfl) rfl rfl ?_
            refine RL.ev (.field0 fo26_0 rfl) rfl rfl ?_
            refine RL.ev (.load1 sh23 rfl (hb_1.cell rfl)) rfl rfl ?_
            refine RL.ev (.len sl23 rfl) rfl rfl ?_
            refine RL.ev (.bin rfl rfl rfl) rfl rfl ?_
            refine RL.ev (.pick_f rfl rfl) rfl rfl ?_
            refine RL.nil (RC.back ?_)
            refine RC.cond_dec rfl (fun h7 => ?_) (fun h7 => ?_)
            ·
              refine RC.seq ?_
              refine RC.region rfl ?_
              refine RL.ev (.assign rfl) rfl rfl ?_
              refine RL.nil (RC.back ?_)
              refine RC.done (rs := [.tmp 2]) (vs := [_]) rfl rfl ⟨rfl, trivial⟩ ?_
              -- end 5
              exact ⟨congrArg Value.bool (aokB_no (fun h => by have := h.free y (List.mem_of_getElem? hy); omega)).symm, S⟩
            ·
              refine RC.skip (RC.back ?_)
              refine RC.region rfl ?_
              refine RL.ev (.as (.bin rfl rfl rfl) (wi64 (y := ((i + 1 : Nat) : Int)) (by omega) (by omega))) rfl rfl ?_
              refine RL.ev (.move rfl) rfl rfl ?_
              exact RL.nil (fun a ka => ⟨i + 1, ⟨by omega, fun j x hj h => (Nat.lt_succ_iff_lt_or_eq.1 h).elim (hp j x hj) (fun e => by subst e; rw [hy] at hj; cases hj; omega), hb_1, S⟩, by omega, ka.keep (keep_of (by repeat (first | exact trivial | refine And.intro rfl ?_)))⟩)
        ·
          obtain rfl : i = A.free.length := (by omega)
          have hp' : ∀ x ∈ A.free, 0 ≤ x ∧ x < A.nodes.length := (fun x hx => by obtain ⟨j, hj⟩ := List.getElem?_of_mem hx; exact hp j x hj (lt_of_get hj))
          refine RC.exit rfl (RC.back ?_)
          refine RC.seq ?_
          refine RC.seq ?_
          refine RC.region rfl ?_
          refine RL.ev (.field0 fo26_0 rfl) rfl rfl ?_
          refine RL.ev (.load1 sh23 rfl (hb_1.cell rfl)) rfl rfl ?_
          refine RL.ev (.len sl23 rfl) rfl rfl ?_
          refine RL.ev (.move rfl) rfl rfl ?_
          refine RL.nil (RC.back ?_)
          refine RC.block ?_
          refine RC.loop (α := Nat) (fun i => [(1, .pointer (some ⟨b_1, 0, none⟩)), (46, .slice na A.nodes.length nc), (47, .int .i64 (A.nodes.length : Int)), (48, .int .i64 (i : Int))]) (fun i w8 => i ≤ A.nodes.length ∧ Pre3 A i ∧ Has w8 b_1 [.slice na A.nodes.length nc, .slice fa A.free.length fc] 26 ∧ Sub w w8) (fun i => A.nodes.length - i) 0 (keep_of (by repeat (first | exact trivial | refine And.intro rfl ?_))) (⟨Nat.zero_le _, ⟨fun j x _ h => absurd h (by omega)⟩, hb_1, S⟩) (fun i w8 hJ => ?_)
          obtain ⟨hi, hq, hb_1, S⟩ := hJ
          refine RC.seq ?_
          refine RC.region rfl ?_
          refine RL.ev (.bin rfl rfl rfl) rfl rfl ?_
          refine RL.nil (RC.back ?_)
          refine RC.seq ?_
          refine RC.cond_dec rfl (fun h9 => ?_) (fun h9 => ?_)
          ·
            obtain ⟨x, hx⟩ := getSome (l := A.nodes) (i := i) (by omega)
            have hcl := List.count_le_length (a := (i : Int)) (l := A.free)
            refine RC.skip (RC.back ?_)
            refine RC.seq ?_
            refine RC.block ?_
            refine RC.seq ?_
            refine RC.region rfl ?_
            refine RL.ev (.move rfl) rfl rfl ?_
            refine RL.ev (.indexS sl23 rfl rfl (by omega) (hN.is (i := 0) (by simp only [List.length_map]; omega))) rfl rfl ?_
            refine RL.ev (.loadR (x.cells) sh73 rfl ((hN.sub S).rowAt (enc := Node.cells) (i := i) hx) rfl) rfl rfl ?_
            refine RL.alloc ze73 rfl rfl (fun b_6 w_6 e_6 z_6 hb_6 s_6 => ?_)
            have ge_6 := S.le e_6
            have n_1__6 := hb_1.ne e_6
            have S := S.trans s_6
            have hb_1 := hb_1.sub s_6
            refine RL.ev (.assign rfl) rfl rfl ?_
            refine RL.store sh73 rfl rfl rfl hb_6 (by exact Nat.le_of_ble_eq_true rfl) (by rfl) rfl (fun w10 z10 hb_6 a10 => ?_)
            have S := S.upd a10 ge_6
            have hb_1 := hb_1.upd a10 n_1__6
            have hb_6 : Has w10 b_6 (x.cells) _ := hb_6.now (by kernel_rfl)
            refine RL.nil (RC.back ?_)
            refine RC.seq ?_
            refine RC.region rfl ?_
            refine RL.ev (.field0 fo26_1 rfl) rfl rfl ?_
            refine RL.ev (.load1 sh24 rfl (hb_1.cell rfl)) rfl rfl ?_
            refine RL.ev (.move rfl) rfl rfl ?_
            refine RL.call rfl ok55 (c_r4has A.free (i : Int) fa fc w10 (hFr.sub S) (by omega)) rfl rfl ?_
            rintro _ w11 ⟨rfl, s12⟩
            have S := S.trans s12
            have hb_1 := hb_1.sub s12
            have hb_6 := hb_6.sub s12
            refine RL.ev (.assign rfl) rfl rfl ?_
            refine RL.nil (RC.back ?_)
            refine RC.seq ?_
            refine RC.seq ?_
            refine RC.region rfl ?_
            refine RL.ev (.loadR (x.cells) sh73 rfl hb_6.row rfl) rfl rfl ?_
            refine RL.call rfl ok56 (c_r4Well x (hA.nok x (List.mem_of_getElem? hx)) w11) rfl rfl ?_
            rintro _ w13 ⟨rfl, s14⟩
            have S := S.trans s14
            have hb_1 := hb_1.sub s14
            have hb_6 := hb_6.sub s14
            refine RL.ev (.not rfl) rfl rfl ?_
            refine RL.ev (.move rfl) rfl rfl ?_
            refine RL.splitB 60 rfl (fun h15 => ?_) (fun h15 => ?_)
            ·
              have hbad1 : ¬ well x = true := (by simpa using h15)
              refine RL.off rfl rfl ?_
              refine RL.off rfl rfl ?_
              refine RL.ev (.pick_t rfl rfl) rfl rfl ?_
              refine RL.ev (.move rfl) rfl rfl ?_
              refine RL.off rfl rfl ?_
              refine RL.off rfl rfl ?_
              refine RL.off rfl rfl ?_
              refine RL.off rfl rfl ?_
              refine RL.off rfl rfl ?_
              refine RL.off rfl rfl ?_
              refine RL.ev (.pick_t rfl rfl) rfl rfl ?_
              refine RL.nil (RC.back ?_)
              refine RC.cond_t rfl ?_
              refine RC.seq ?_
              refine RC.region rfl ?_
              refine RL.ev (.assign rfl) rfl rfl ?_
              refine RL.nil (RC.back ?_)
              refine RC.done (rs := [.tmp 2]) (vs := [_]) rfl rfl ⟨rfl, trivial⟩ ?_
              -- end 6
              exact ⟨congrArg Value.bool (aokB_no (fun h => hbad1 (aok_at3 h hx).1)).symm, S⟩
            ·
              have hw : well x = true := (by simpa using h15)
              refine RL.ev (.move rfl) rfl rfl ?_
              refine RL.ev (.bin rfl rfl rfl) rfl rfl ?_
              refine RL.ev (.pick_f rfl rfl) rfl rfl ?_
              refine RL.ev (.move rfl) rfl rfl ?_
              refine RL.split 64 rfl (fun h16 => ?_) (fun h16 => ?_)
              ·
                have hbad4 := h16
                refine RL.off rfl rfl ?_
                refine RL.off rfl rfl ?_
                refine RL.off rfl rfl ?_
                refine RL.off rfl rfl ?_
                refine RL.off rfl rfl ?_
                refine RL.off rfl rfl ?_
                refine RL.ev (.pick_t rfl rfl) rfl rfl ?_
                refine RL.nil (RC.back ?_)
                refine RC.cond_t rfl ?_
                refine RC.seq ?_
                refine RC.region rfl ?_
                refine RL.ev (.assign rfl) rfl rfl ?_
                refine RL.nil (RC.back ?_)
                refine RC.done (rs := [.tmp 2]) (vs := [_]) rfl rfl ⟨rfl, trivial⟩ ?_
                -- end 7
                exact ⟨congrArg Value.bool (aokB_no (fun h => by have := (aok_at3 h hx).2.1; omega)).symm, S⟩
              ·
                have hle := h16
                refine RL.ev (.move rfl) rfl rfl ?_
                refine RL.ev (.bin rfl rfl rfl) rfl rfl ?_
                refine RL.ev (.field0 fo73_0 rfl) rfl rfl ?_
                refine RL.ev (.load1 sh3 rfl (hb_6.cell rfl)) rfl rfl ?_
                refine RL.ev (.bin rfl rfl rfl) rfl rfl ?_
                refine RL.ev (.neB bo4 rfl rfl) rfl rfl ?_
                refine RL.ev (.pick_f rfl rfl) rfl rfl ?_
                refine RL.nil (RC.back ?_)
                refine RC.cond rfl (fun h17 => ?_) (fun h17 => ?_)
                ·
                  have hbad2 : ¬ ((A.free.count (i : Int) : Int) = 1 ↔ x.kind = 0) := (by simpa using h17)
                  refine RC.seq ?_
                  refine RC.region rfl ?_
                  refine RL.ev (.assign rfl) rfl rfl ?_
                  refine RL.nil (RC.back ?_)
                  refine RC.done (rs := [.tmp 2]) (vs := [_]) rfl rfl ⟨rfl, trivial⟩ ?_
                  -- end 8
                  exact ⟨congrArg Value.bool (aokB_no (fun h => hbad2 (by rw [(aok_at3 h hx).2.2.1]; omega))).symm, S⟩
                ·
                  have hk : ((A.free.count (i : Int) : Int) = 1 ↔ x.kind = 0) := (by simpa using h17)
                  refine RC.skip (RC.back ?_)
                  refine RC.seq ?_
                  refine RC.region rfl ?_
                  refine RL.ev (.field0 fo73_1 rfl) rfl rfl ?_
                  refine RL.ev (.load1 sh3 rfl (hb_6.cell rfl)) rfl rfl ?_
                  refine RL.ev (.buildS ze73 pl73 rfl rfl) rfl rfl ?_
                  refine RL.alloc ze73 rfl rfl (fun b_8 w_8 e_8 z_8 hb_8 s_8 => ?_)
                  have ge_8 := S.le e_8
                  have n_1__8 := hb_1.ne e_8
                  have n_6__8 := hb_6.ne e_8
                  have S := S.trans s_8
                  have hb_1 := hb_1.sub s_8
                  have hb_6 := hb_6.sub s_8
                  refine RL.store sh73 rfl rfl rfl hb_8 (by exact Nat.le_of_ble_eq_true rfl) (by rfl) rfl (fun w18 z18 hb_8 a18 => ?_)
                  have S := S.upd a18 ge_8
                  have hb_1 := hb_1.upd a18 n_1__8
                  have hb_6 := hb_6.upd a18 n_6__8
                  have hb_8 : Has w18 b_8 ((bareN x.gen).cells) _ := hb_8.now (by kernel_rfl)
                  refine RL.nil (RC.back ?_)
                  refine RC.seq ?_
                  refine RC.region rfl ?_
                  refine RL.ev (.move rfl) rfl rfl ?_
                  refine RL.ev (.bin rfl rfl rfl) rfl rfl ?_
                  refine RL.ev (.move rfl) rfl rfl ?_
                  refine RL.split 77 rfl (fun h19 => ?_) (fun h19 => ?_)
                  ·
                    have hmem := h19
                    refine RL.ev (.loadR (x.cells) sh73 rfl hb_6.row rfl) rfl rfl ?_
                    refine RL.ev (.loadR ((bareN x.gen).cells) sh73 rfl hb_8.row rfl) rfl rfl ?_
                    refine RL.ev (.neS (xs := x.cells) (ys := (bareN x.gen).cells) fk73 eg73 sh73 rfl rfl rfl rfl rfl) rfl rfl ?_
                    refine RL.ev (.pick_t rfl rfl) rfl rfl ?_
                    refine RL.nil (RC.back ?_)
                    refine RC.cond rfl (fun h20 => ?_) (fun h20 => ?_)
                    ·
                      have hbad3 : ¬ x = bareN x.gen := (by have := h20; rw [eqL_cells] at this; simpa using this)
                      refine RC.seq ?_
                      refine RC.region rfl ?_
                      refine RL.ev (.assign rfl) rfl rfl ?_
                      refine RL.nil (RC.back ?_)
                      refine RC.done (rs := [.tmp 2]) (vs := [_]) rfl rfl ⟨rfl, trivial⟩ ?_
                      -- end 9
                      exact ⟨congrArg Value.bool (aokB_no (fun h => hbad3 ((aok_at3 h hx).2.2.2 (by omega)))).symm, S⟩
                    ·
                      have hgood : well x = true ∧ A.free.count (i : Int) ≤ 1 ∧ (x.kind = 0 ↔ A.free.count (i : Int) = 1) ∧ (A.free.count (i : Int) = 1 → x = bareN x.gen) := ⟨hw, by omega, by rw [← hk]; omega, fun _ => by have := h20; rw [eqL_cells] at this; simpa using this⟩
                      refine RC.skip (RC.back ?_)
                      refine RC.region rfl ?_
                      refine RL.ev (.as (.bin rfl rfl rfl) (wi64 (y := ((i + 1 : Nat) : Int)) (by omega) (by omega))) rfl rfl ?_
                      refine RL.ev (.move rfl) rfl rfl ?_
                      exact RL.nil (fun a ka => ⟨i + 1, ⟨by omega, hq.succ hx hgood, hb_1, S⟩, by omega, ka.keep (keep_of (by repeat (first | exact trivial | refine And.intro rfl ?_)))⟩)
                  ·
                    have hgood : well x = true ∧ A.free.count (i : Int) ≤ 1 ∧ (x.kind = 0 ↔ A.free.count (i : Int) = 1) ∧ (A.free.count (i : Int) = 1 → x = bareN x.gen) := ⟨hw, by omega, by rw [← hk]; omega, fun h => absurd h (by omega)⟩
                    refine RL.off rfl rfl ?_
                    refine RL.off rfl rfl ?_
                    refine RL.off rfl rfl ?_
                    refine RL.ev (.pick_f rfl rfl) rfl rfl ?_
                    refine RL.nil (RC.back ?_)
                    refine RC.cond_f rfl ?_
                    refine RC.skip (RC.back ?_)
                    refine RC.region rfl ?_
                    refine RL.ev (.as (.bin rfl rfl rfl) (wi64 (y := ((i + 1 : Nat) : Int)) (by omega) (by omega))) rfl rfl ?_
                    refine RL.ev (.move rfl) rfl rfl ?_
                    exact RL.nil (fun a ka => ⟨i + 1, ⟨by omega, hq.succ hx hgood, hb_1, S⟩, by omega, ka.keep (keep_of (by repeat (first | exact trivial | refine And.intro rfl ?_)))⟩)
          ·
            obtain rfl : i = A.nodes.length := by omega
            refine RC.exit rfl (RC.back ?_)
            refine RC.seq ?_
            refine RC.region rfl ?_
            refine RL.ev (.assign rfl) rfl rfl ?_
            refine RL.nil (RC.back ?_)
            refine RC.done (rs := [.tmp 2]) (vs := [_]) rfl rfl ⟨rfl, trivial⟩ ?_
            -- end 10
            exact ⟨congrArg Value.bool (aokB_yes (Pre3.aok (by omega) hp' hq)).symm, S⟩
end Go.Proofs.Ytefakjhfcgjhgaa
