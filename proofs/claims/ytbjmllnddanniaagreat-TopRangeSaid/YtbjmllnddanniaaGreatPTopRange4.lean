/-
  What the law TopRange leans on, part 4.
-/
import Derived.Test.YtbjmllnddanniaaGreatPTopRange3
set_option linter.unusedVariables false
set_option linter.unusedSimpArgs false
namespace Go.Proofs.YtbjmllnddanniaaGreat
open Go Go.XL
def rB (y : Node) (a b : Int) : Node := ⟨y.kind, y.gen, 0, y.v, y.s, a, b, 0, 0, 0, 0, 0, 0, 0, 0, 0⟩
theorem mayR_rng (A : Ar) : ∀ (k : Nat) (r : Int) (seen : List Bool) (left : Int), 0 ≤ left → -1 ≤ (mayR A k r seen left).1 ∧ (mayR A k r seen left).1 ≤ left ∧ (mayR A k r seen left).2.length = seen.length
  | 0, r, seen, left, h => by rw [mayR]; split <;> exact ⟨by omega, by omega, rfl⟩
  | k + 1, r, seen, left, h => by
    by_cases h0 : r = 0
    · subst h0; rw [mayR_0]; exact ⟨by omega, h, rfl⟩
    · cases hg : getA A r with
      | none => rw [mayR_no h0 hg]; exact ⟨by omega, by omega, rfl⟩
      | some y =>
        by_cases hc : left ≤ 0 ∨ ¬ y.kind = 5 ∨ seen.getD (placeR r).toNat false = true
        · rw [mayR_bad h0 hg hc]; exact ⟨by omega, by omega, rfl⟩
        · obtain ⟨m1, hm1⟩ : ∃ m, mayR A k y.k0 (seen.set (placeR r).toNat true) (left - 1) = m := ⟨_, rfl⟩
          have hl0 : ¬ left ≤ 0 := fun e => hc (.inl e)
          have h1 := mayR_rng A k y.k0 (seen.set (placeR r).toNat true) (left - 1) (by omega)
          rw [hm1, List.length_set] at h1
          by_cases hc2 : m1.1 < 0 ∨ ¬ rBare y = y
          · rw [mayR_bad2 h0 hg hc hm1 hc2]; exact ⟨by omega, by omega, h1.2.2⟩
          · obtain ⟨m2, hm2⟩ : ∃ m, mayR A k y.k1 m1.2 (left - 1 - m1.1) = m := ⟨_, rfl⟩
            have h2 := mayR_rng A k y.k1 m1.2 (left - 1 - m1.1) (by omega)
            rw [hm2, h1.2.2] at h2
            have hm0 : 0 ≤ m1.1 := Int.not_lt.1 fun e => hc2 (.inl e)
            by_cases hc3 : m2.1 < 0 ∨ ¬ m1.1 + m2.1 + 1 = y.s
            · rw [mayR_bad3 h0 hg hc hm1 hc2 hm2 hc3]; exact ⟨by omega, by omega, h2.2.2⟩
            · rw [mayR_good h0 hg hc hm1 hc2 hm2 hc3]; exact ⟨by simp only []; omega, by simp only []; omega, h2.2.2⟩
theorem seen_get {seen : List Bool} {p : Int} (h : 0 ≤ p ∧ p < seen.length) : (seen.map Value.bool)[p.toNat]? = some (.bool (seen.getD p.toNat false)) := by
  rw [List.getElem?_map, List.getD_eq_getElem?_getD, List.getElem?_eq_getElem (by omega)]; rfl
set_option maxHeartbeats 4000000 in
theorem c_dmay (A : Ar) (na fa : Option Addr) (nc fc : Nat) (bad : Int) (bf bs : Nat) (hfs : bf ≠ bs) (M : Nat → Prop) (hMs : ∀ k, M k → k ≠ bs) (hmost : A.nodes.length ≤ 512) : ∀ (k : Nat) (r : Int) (seen : List Bool) (left : Int) (w : World), U64 r → 0 ≤ left → left < k → left ≤ 200 → seen.length = A.nodes.length → Has w bf (wvC na fa nc fc A bad) 182 → Has w bs (seen.map Value.bool) 4 → Ft M (fun u => ArR u na fa A) w →
    FC Tryz.prog 229 [.pointer (some ⟨bf, 0, none⟩), .int .u64 r, .slice (some ⟨bs, 0, none⟩) A.nodes.length A.nodes.length, .int .i64 left] w (fun v w' => v = .int .i64 (mayR A k r seen left).1 ∧ Has w' bs ((mayR A k r seen left).2.map Value.bool) 4 ∧ Agr (· = bs) w w') := by
  intro k
  induction k with
  | zero => intro r seen left w _ h1 h2; omega
  | succ k ih =>
  intro r seen left w hr hl0 hlk hl hsl hbf hs hA
  obtain ⟨y, e, hgv, hgs, hgn⟩ := getV_form2 A r
  have nfs := hfs
  refine FC.intro Tryz.func229 rfl Tryz.ntmps229 rfl ?_
  have G : Agr (· = bs) w w := Agr.refl _ _
  refine RC.seq ?_
  refine RC.region rfl ?_
  refine RL.ev (.assign rfl) rfl rfl ?_
  refine RL.nil (RC.back ?_)
  refine RC.seq ?_
  refine RC.seq ?_
  refine RC.region rfl ?_
  refine RL.ev (.move rfl) rfl rfl ?_
  refine RL.ev (.bin rfl rfl rfl) rfl rfl ?_
  refine RL.nil (RC.back ?_)
  refine RC.cond_dec rfl (fun h1 => ?_) (fun h1 => ?_)
  ·
    have hres : mayR A (k + 1) r seen left = (0, seen) := (by rw [h1, mayR_0])
    refine RC.seq ?_
    refine RC.region rfl ?_
    refine RL.ev (.assign rfl) rfl rfl ?_
    refine RL.nil (RC.back ?_)
    refine RC.done (rs := [.tmp 8]) (vs := [_]) rfl rfl ⟨rfl, trivial⟩ ?_
    -- end 1
    rw [hres]
    exact ⟨rfl, hs, G⟩
  ·
    have hr0 := h1
    refine RC.skip (RC.back ?_)
    refine RC.seq ?_
    refine RC.region rfl ?_
    refine RL.ev (.move rfl) rfl rfl ?_
    refine RL.ev (.nilCheck rfl) rfl rfl ?_
    refine RL.ev (.field0 fo182_0 rfl) rfl rfl ?_
    refine RL.ev (.loadR ([.slice na A.nodes.length nc, .slice fa A.free.length fc]) sh26 rfl (row_pref (xs := wvA na fa nc fc A) (ys := [.int .i64 bad]) hbf) rfl) rfl rfl ?_
    refine RL.ev (.move rfl) rfl rfl ?_
    refine RL.call rfl ok125 (c_aGet A na fa nc fc r hr w hA.now) rfl rfl ?_
    rintro _ w2 ⟨rfl, s3⟩
    have G := G.trans s3.agr
    have hbf := hbf.sub s3
    have hs := hs.sub s3
    have hA := hA.sub s3
    refine RL.ev (.as (v' := .tuple #[y.val, .int .i64 e]) (.move rfl) (by rw [hgv])) rfl rfl ?_
    refine RL.ev (.extract rfl rfl) rfl rfl ?_
    refine RL.ev (.extract rfl rfl) rfl rfl ?_
    refine RL.alloc ze140 rfl rfl (fun b_9 w_9 e_9 z_9 hb_9 s_9 => ?_)
    have nf__9 := hbf.ne e_9
    have ns__9 := hs.ne e_9
    have d_hA_b_9 := hA.neNew e_9
    have geG_9 := agLe G e_9
    have G := G.trans s_9.agr
    have hbf := hbf.sub s_9
    have hs := hs.sub s_9
    have hA := hA.sub s_9
    refine RL.store sh140 rfl rfl rfl hb_9 (by exact Nat.le_of_ble_eq_true rfl) (by rfl) rfl (fun w4 z4 hb_9 a4 => ?_)
    have G := agNew G a4 geG_9
    have hbf := hbf.upd a4 nf__9
    have hs := hs.upd a4 ns__9
    have hA := hA.updD a4 d_hA_b_9
    have hb_9 : Has w4 b_9 (y.cells) _ := hb_9.now (by kernel_rfl)
    refine RL.ev (.assign rfl) rfl rfl ?_
    refine RL.nil (RC.back ?_)
    refine RC.seq ?_
    refine RC.seq ?_
    refine RC.region rfl ?_
    refine RL.ev (.move rfl) rfl rfl ?_
    refine RL.ev (.bin rfl rfl rfl) rfl rfl ?_
    refine RL.ev (.move rfl) rfl rfl ?_
    refine RL.split 27 rfl (fun h5 => ?_) (fun h5 => ?_)
    ·
      have hres : mayR A (k + 1) r seen left = (-1, seen) := (by cases hg : getA A r with | none => exact mayR_no hr0 hg | some x => exact absurd (hgs x hg).2 h5)
      refine RL.off rfl rfl ?_
      refine RL.off rfl rfl ?_
      refine RL.ev (.pick_t rfl rfl) rfl rfl ?_
      refine RL.ev (.move rfl) rfl rfl ?_
      refine RL.off rfl rfl ?_
      refine RL.off rfl rfl ?_
      refine RL.off rfl rfl ?_
      refine RL.ev (.pick_t rfl rfl) rfl rfl ?_
      refine RL.ev (.move rfl) rfl rfl ?_
      refine RL.off rfl rfl ?_
      refine RL.off rfl rfl ?_
      refine RL.off rfl rfl ?_
      refine RL.off rfl rfl ?_
      refine RL.off rfl rfl ?_
      refine RL.ev (.pick_t rfl rfl) rfl rfl ?_
      refine RL.nil (RC.back ?_)
      refine RC.cond_t rfl ?_
      refine RC.seq ?_
      refine RC.region rfl ?_
      refine RL.ev (.assign rfl) rfl rfl ?_
      refine RL.nil (RC.back ?_)
      refine RC.done (rs := [.tmp 8]) (vs := [_]) rfl rfl ⟨rfl, trivial⟩ ?_
      -- end 2
      rw [hres]
      exact ⟨rfl, hs, G⟩
    ·
      have hy : getA A r = some y := (by cases hg : getA A r with | none => have := (hgn hg).2; omega | some x => rw [(hgs x hg).1])
      have hrg := getA_rng hy
      have hyo := hA.now.nok y (getA_nok hy)
      refine RL.ev (.move rfl) rfl rfl ?_
      refine RL.ev (.bin rfl rfl rfl) rfl rfl ?_
      refine RL.ev (.pick_f rfl rfl) rfl rfl ?_
      refine RL.ev (.move rfl) rfl rfl ?_
      refine RL.split 31 rfl (fun h6 => ?_) (fun h6 => ?_)
      ·
        have hres := mayR_bad (k := k) (seen := seen) hr0 hy (.inl h6)
        refine RL.off rfl rfl ?_
        refine RL.off rfl rfl ?_
        refine RL.off rfl rfl ?_
        refine RL.ev (.pick_t rfl rfl) rfl rfl ?_
        refine RL.ev (.move rfl) rfl rfl ?_
        refine RL.off rfl rfl ?_
        refine RL.off rfl rfl ?_
        refine RL.off rfl rfl ?_
        refine RL.off rfl rfl ?_
        refine RL.off rfl rfl ?_
        refine RL.ev (.pick_t rfl rfl) rfl rfl ?_
        refine RL.nil (RC.back ?_)
        refine RC.cond_t rfl ?_
        refine RC.seq ?_
        refine RC.region rfl ?_
        refine RL.ev (.assign rfl) rfl rfl ?_
        refine RL.nil (RC.back ?_)
        refine RC.done (rs := [.tmp 8]) (vs := [_]) rfl rfl ⟨rfl, trivial⟩ ?_
        -- end 3
        rw [hres]
        exact ⟨rfl, hs, G⟩
      ·
        have p31 := h6
        refine RL.ev (.field0 fo140_0 rfl) rfl rfl ?_
        refine RL.ev (.load1 sh3 rfl (hb_9.cell rfl)) rfl rfl ?_
        refine RL.ev (.bin rfl rfl rfl) rfl rfl ?_
        refine RL.ev (.pick_f rfl rfl) rfl rfl ?_
        refine RL.ev (.move rfl) rfl rfl ?_
        refine RL.split 36 rfl (fun h7 => ?_) (fun h7 => ?_)
        ·
          have hres := mayR_bad (k := k) (seen := seen) (left := left) hr0 hy (.inr (.inl h7))
          refine RL.off rfl rfl ?_
          refine RL.off rfl rfl ?_
          refine RL.off rfl rfl ?_
          refine RL.off rfl rfl ?_
          refine RL.off rfl rfl ?_
          refine RL.ev (.pick_t rfl rfl) rfl rfl ?_
          refine RL.nil (RC.back ?_)
          refine RC.cond_t rfl ?_
          refine RC.seq ?_
          refine RC.region rfl ?_
          refine RL.ev (.assign rfl) rfl rfl ?_
          refine RL.nil (RC.back ?_)
          refine RC.done (rs := [.tmp 8]) (vs := [_]) rfl rfl ⟨rfl, trivial⟩ ?_
          -- end 4
          rw [hres]
          exact ⟨rfl, hs, G⟩
        ·
          have p36 := h7
          refine RL.ev (.move rfl) rfl rfl ?_
          refine RL.ev (.move rfl) rfl rfl ?_
          refine RL.call rfl ok169 (c_refPlace r hr w4) rfl rfl ?_
          rintro _ w8 ⟨rfl, s9⟩
          have G := G.trans s9.agr
          have hbf := hbf.sub s9
          have hs := hs.sub s9
          have hA := hA.sub s9
          have hb_9 := hb_9.sub s9
          refine RL.ev (.indexO sl253 rfl rfl (by omega)) rfl rfl ?_
          refine RL.ev (.load1 sh4 rfl (hs.cell (v := .bool (seen.getD (placeR r).toNat false)) (by rw [Nat.mul_one, Nat.zero_add]; exact seen_get (by omega)))) rfl rfl ?_
          refine RL.ev (.pick_f rfl rfl) rfl rfl ?_
          refine RL.nil (RC.back ?_)
          refine RC.cond rfl (fun h10 => ?_) (fun h10 => ?_)
          ·
            have hres := mayR_bad (k := k) (seen := seen) (left := left) hr0 hy (.inr (.inr h10))
            refine RC.seq ?_
            refine RC.region rfl ?_
            refine RL.ev (.assign rfl) rfl rfl ?_
            refine RL.nil (RC.back ?_)
            refine RC.done (rs := [.tmp 8]) (vs := [_]) rfl rfl ⟨rfl, trivial⟩ ?_
            -- end 5
            rw [hres]
            exact ⟨rfl, hs, G⟩
          ·
            have hnb : ¬ (left ≤ 0 ∨ ¬ y.kind = 5 ∨ seen.getD (placeR r).toNat false = true) := (fun e => e.elim p31 (fun e => e.elim p36 (fun e => by have h2 := h10; rw [e] at h2; cases h2)))
            have hk5 : y.kind = 5 := Decidable.not_not.1 (fun e => hnb (.inr (.inl e)))
            refine RC.skip (RC.back ?_)
            refine RC.seq ?_
            refine RC.region rfl ?_
            refine RL.ev (.move rfl) rfl rfl ?_
            refine RL.ev (.move rfl) rfl rfl ?_
            refine RL.call rfl ok169 (c_refPlace r hr w8) rfl rfl ?_
            rintro _ w11 ⟨rfl, s12⟩
            have G := G.trans s12.agr
            have hbf := hbf.sub s12
            have hs := hs.sub s12
            have hA := hA.sub s12
            have hb_9 := hb_9.sub s12
            refine RL.ev (.indexO sl253 rfl rfl (by omega)) rfl rfl ?_
            refine RL.store sh4 rfl rfl rfl hs (by show 0 + (placeR r).toNat * 1 + 1 ≤ _; rw [List.length_map]; omega) (by rfl) rfl (fun w13 z13 hs a13 => ?_)
            have G := G.trans a13
            have hbf := hbf.upd a13 nfs
            have hA := hA.updD a13 hMs
            have hb_9 := hb_9.upd a13 ns__9.symm
            have hs := (Has.set1 (enc := Value.bool) (i := (placeR r).toNat) (x := true) (by rw [Nat.zero_add, Nat.mul_one] at hs; exact hs))
            refine RL.nil (RC.back ?_)
            refine RC.seq ?_
            refine RC.region rfl ?_
            refine RL.ev (.field0 fo140_0 rfl) rfl rfl ?_
            refine RL.ev (.load1 sh3 rfl (hb_9.cell rfl)) rfl rfl ?_
            refine RL.ev (.field0 fo140_1 rfl) rfl rfl ?_
            refine RL.ev (.load1 sh3 rfl (hb_9.cell rfl)) rfl rfl ?_
            refine RL.ev (.field0 fo140_3 rfl) rfl rfl ?_
            refine RL.ev (.load1 sh2 rfl (hb_9.cell rfl)) rfl rfl ?_
            refine RL.ev (.field0 fo140_4 rfl) rfl rfl ?_
            refine RL.ev (.load1 sh2 rfl (hb_9.cell rfl)) rfl rfl ?_
            refine RL.ev (.buildS ze140 pl140 rfl rfl) rfl rfl ?_
            refine RL.alloc ze140 rfl rfl (fun b_11 w_11 e_11 z_11 hb_11 s_11 => ?_)
            have nf__11 := hbf.ne e_11
            have ns__11 := hs.ne e_11
            have n_9__11 := hb_9.ne e_11
            have d_hA_b_11 := hA.neNew e_11
            have geG_11 := agLe G e_11
            have G := G.trans s_11.agr
            have hbf := hbf.sub s_11
            have hs := hs.sub s_11
            have hA := hA.sub s_11
            have hb_9 := hb_9.sub s_11
            refine RL.store sh140 rfl rfl rfl hb_11 (by exact Nat.le_of_ble_eq_true rfl) (by rfl) rfl (fun w14 z14 hb_11 a14 => ?_)
            have G := agNew G a14 geG_11
            have hbf := hbf.upd a14 nf__11
            have hs := hs.upd a14 ns__11
            have hA := hA.updD a14 d_hA_b_11
            have hb_9 := hb_9.upd a14 n_9__11
            have hb_11 : Has w14 b_11 ((rB y 0 0).cells) _ := hb_11.now (by kernel_rfl)
            refine RL.nil (RC.back ?_)
            refine RC.cutx (α := Unit) (fun _ => [(0, .pointer (some ⟨bf, 0, none⟩)), (2, .slice (some ⟨bs, 0, none⟩) A.nodes.length A.nodes.length), (3, .int .i64 left), (9, .pointer (some ⟨b_9, 0, none⟩)), (11, .pointer (some ⟨b_11, 0, none⟩))]) (fun _ w15 => Has w15 bf (wvC na fa nc fc A bad) 182 ∧ Has w15 bs ((seen.set (placeR r).toNat true).map Value.bool) 4 ∧ Has w15 b_9 y.cells 140 ∧ Has w15 b_11 (rB y y.k0 y.k1).cells 140 ∧ Ft M (fun u => ArR u na fa A) w15 ∧ Agr (· = bs) w w15) ?_ (fun _ w15 hJ => ?_)
            ·
              refine RC.drawD (fun k => k = b_11) [8, 11] w14.heap.size 12 rfl rfl mxo (fun w16 s17 => ?_)
              have ltD_bf := hbf.lt
              have ltD_bs := hs.lt
              have ltD_hA := fun k hk => (hA.ge k hk).2
              have ltD_b_9 := hb_9.lt
              have ltD_b_11 := hb_11.lt
              have szD := Nat.le_refl w14.heap.size
              have G := G.trans s17.agr
              have hbf := hbf.sub s17
              have hs := hs.sub s17
              have hA := hA.sub s17
              have hb_9 := hb_9.sub s17
              have hb_11 := hb_11.sub s17
              have szD := Nat.le_trans szD s17.size
              refine RD.take 0 rfl (by kernel_rfl) (by kernel_rfl) (by kernel_rfl) (fun w' s' => .field0 fo140_5 rfl) rfl rfl ?_
              refine RD.take 1 rfl (by kernel_rfl) (by kernel_rfl) (by kernel_rfl) (fun w' s' => .indexArr ar138 rfl rfl (by omega)) rfl rfl ?_
              refine RD.take 2 rfl (by kernel_rfl) (by kernel_rfl) (by kernel_rfl) (fun w' s' => .load1 sh31 rfl ((hb_9.step s' (fun e => e.elim (fun e => n_9__11 e) (fun e => Nat.not_le.2 ltD_b_9 e))).cell rfl)) rfl rfl ?_
              refine RD.take 3 rfl (by kernel_rfl) (by kernel_rfl) (by kernel_rfl) (fun w' s' => .field0 fo140_5 rfl) rfl rfl ?_
              refine RD.take 4 rfl (by kernel_rfl) (by kernel_rfl) (by kernel_rfl) (fun w' s' => .indexArr ar138 rfl rfl (by omega)) rfl rfl ?_
              refine RD.take 5 rfl (by kernel_rfl) (by kernel_rfl) (by kernel_rfl) (fun w' s' => .load1 sh31 rfl ((hb_9.step s' (fun e => e.elim (fun e => n_9__11 e) (fun e => Nat.not_le.2 ltD_b_9 e))).cell rfl)) rfl rfl ?_
              refine RD.take 6 rfl (by kernel_rfl) (by kernel_rfl) (by kernel_rfl) (fun w' s' => .field0 fo140_5 rfl) rfl rfl ?_
              refine RD.take 7 rfl (by kernel_rfl) (by kernel_rfl) (by kernel_rfl) (fun w' s' => .indexArr ar138 rfl rfl (by omega)) rfl rfl ?_
              refine RD.take 9 rfl (by kernel_rfl) (by kernel_rfl) (by kernel_rfl) (fun w' s' => .field0 fo140_5 rfl) rfl rfl ?_
              refine RD.all [8] (by kernel_rfl) rfl (RDs.cons rfl ?_ (RDs.nil))
              refine RL.store sh31 rfl rfl rfl hb_11 (by exact Nat.le_of_ble_eq_true rfl) (by rfl) rfl (fun w18 z18 hb_11 a18 => ?_)
              have G := agNew G a18 geG_11
              have hbf := hbf.upd a18 nf__11
              have hs := hs.upd a18 ns__11
              have hA := hA.updD a18 d_hA_b_11
              have hb_9 := hb_9.upd a18 n_9__11
              have szD := Nat.le_trans szD a18.size
              refine RD.backW rfl (a18.mono fun k _ e => e ▸ (.inl (rfl))) ?_
              refine RD.take 10 rfl (by kernel_rfl) (by kernel_rfl) (by kernel_rfl) (fun w' s' => .indexArr ar138 rfl rfl (by omega)) rfl rfl ?_
              refine RD.all [11] (by kernel_rfl) rfl (RDs.cons rfl ?_ (RDs.nil))
              refine RL.store sh31 rfl rfl rfl hb_11 (by exact Nat.le_of_ble_eq_true rfl) (by rfl) rfl (fun w19 z19 hb_11 a19 => ?_)
              have G := agNew G a19 geG_11
              have hbf := hbf.upd a19 nf__11
              have hs := hs.upd a19 ns__11
              have hA := hA.updD a19 d_hA_b_11
              have hb_9 := hb_9.upd a19 n_9__11
              have szD := Nat.le_trans szD a19.size
              refine RD.backW rfl (a19.mono fun k _ e => e ▸ (.inl (rfl))) ?_
              exact RD.done (by kernel_rfl) (fun a ka => ⟨(), ⟨hbf, hs, hb_9, hb_11, hA, G⟩, ka.keep (keep_of (by repeat (first | exact trivial | refine And.intro rfl ?_)))⟩)
            obtain ⟨hbf, hs, hb_9, hb_11, hA, G⟩ := hJ
            refine RC.seq ?_
            refine RC.region rfl ?_
            refine RL.ev (.move rfl) rfl rfl ?_
            refine RL.ev (.field0 fo140_5 rfl) rfl rfl ?_
            refine RL.ev (.indexArr ar138 rfl rfl (by omega)) rfl rfl ?_
            refine RL.ev (.load1 sh31 rfl (hb_9.cell rfl)) rfl rfl ?_
            refine RL.ev (.move rfl) rfl rfl ?_
            refine RL.ev (.move rfl) rfl rfl ?_
            refine RL.ev (.as (.bin rfl rfl rfl) (wi64 (y := left - 1) (by rfl) (by omega))) rfl rfl ?_
            refine RL.call rfl ok229 (ih y.k0 (seen.set (placeR r).toNat true) (left - 1) w15 (hyo.kids _ (by simp [Node.kids])) (by omega) (by omega) (by omega) (by rw [List.length_set]; exact hsl) hbf hs hA) rfl rfl ?_
            rintro vr w20 ⟨hv, hs1, ag⟩
            have G := G.trans ag
            have hbf := hbf.upd ag nfs
            have hb_9 := hb_9.upd ag ns__9.symm
            have hb_11 := hb_11.upd ag ns__11.symm
            have hA := hA.updD ag hMs
            have hs := hs1
            obtain ⟨m1, hm1⟩ : ∃ m, mayR A k y.k0 (seen.set (placeR r).toNat true) (left - 1) = m := ⟨_, rfl⟩
            have hml := mayR_rng A k y.k0 (seen.set (placeR r).toNat true) (left - 1) (by omega)
            rw [hm1, List.length_set] at hml
            rw [hm1] at hv hs
            subst hv
            refine RL.ev (.assign rfl) rfl rfl ?_
            refine RL.nil (RC.back ?_)
            refine RC.seq ?_
            refine RC.seq ?_
            refine RC.region rfl ?_
            refine RL.ev (.move rfl) rfl rfl ?_
            refine RL.ev (.bin rfl rfl rfl) rfl rfl ?_
            refine RL.ev (.move rfl) rfl rfl ?_
            refine RL.split 76 rfl (fun h22 => ?_) (fun h22 => ?_)
            ·
              have hres := mayR_bad2 hr0 hy hnb hm1 (.inl h22)
              refine RL.off rfl rfl ?_
              refine RL.off rfl rfl ?_
              refine RL.off rfl rfl ?_
              refine RL.ev (.pick_t rfl rfl) rfl rfl ?_
              refine RL.nil (RC.back ?_)
              refine RC.cond_t rfl ?_
              refine RC.seq ?_
              refine RC.region rfl ?_
              refine RL.ev (.assign rfl) rfl rfl ?_
              refine RL.nil (RC.back ?_)
              refine RC.done (rs := [.tmp 8]) (vs := [_]) rfl rfl ⟨rfl, trivial⟩ ?_
              -- end 6
              rw [hres]
              exact ⟨rfl, hs, G⟩
            ·
              have hp0 := h22
              refine RL.ev (.loadR (y.cells) sh140 rfl hb_9.row rfl) rfl rfl ?_
              refine RL.ev (.loadR ((rB y y.k0 y.k1).cells) sh140 rfl hb_11.row rfl) rfl rfl ?_
              refine RL.ev (.neS (xs := y.cells) (ys := (rB y y.k0 y.k1).cells) fk140 eg140 sh140 rfl rfl rfl rfl rfl) rfl rfl ?_
              refine RL.ev (.pick_f rfl rfl) rfl rfl ?_
              refine RL.nil (RC.back ?_)
              refine RC.cond rfl (fun h23 => ?_) (fun h23 => ?_)
              ·
                have hres := mayR_bad2 hr0 hy hnb hm1 (.inr (fun e => by have h2 := h23; rw [eqL_cells, decide_eq_true (show y = rB y y.k0 y.k1 from e.symm)] at h2; cases h2))
                refine RC.seq ?_
                refine RC.region rfl ?_
                refine RL.ev (.assign rfl) rfl rfl ?_
                refine RL.nil (RC.back ?_)
                refine RC.done (rs := [.tmp 8]) (vs := [_]) rfl rfl ⟨rfl, trivial⟩ ?_
                -- end 7
                rw [hres]
                exact ⟨rfl, hs, G⟩
              ·
                have hbr : rBare y = y := (by have h2 := h23; rw [eqL_cells] at h2; simp only [Bool.not_eq_false', decide_eq_true_eq] at h2; exact h2.symm)
                have hc2 : ¬ (m1.1 < 0 ∨ ¬ rBare y = y) := (fun e => e.elim hp0 (fun e => e hbr))
                refine RC.skip (RC.back ?_)
                refine RC.seq ?_
                refine RC.region rfl ?_
                refine RL.ev (.move rfl) rfl rfl ?_
                refine RL.ev (.field0 fo140_5 rfl) rfl rfl ?_
                refine RL.ev (.indexArr ar138 rfl rfl (by omega)) rfl rfl ?_
                refine RL.ev (.load1 sh31 rfl (hb_9.cell rfl)) rfl rfl ?_
                refine RL.ev (.move rfl) rfl rfl ?_
                refine RL.ev (.move rfl) rfl rfl ?_
                refine RL.ev (.as (.bin rfl rfl rfl) (wi64 (y := left - 1) (by rfl) (by omega))) rfl rfl ?_
                refine RL.ev (.move rfl) rfl rfl ?_
                refine RL.ev (.as (.bin rfl rfl rfl) (wi64 (y := left - 1 - m1.1) (by rfl) (by omega))) rfl rfl ?_
                refine RL.call rfl ok229 (ih y.k1 m1.2 (left - 1 - m1.1) w20 (hyo.kids _ (by simp [Node.kids])) (by omega) (by omega) (by omega) (by omega) hbf hs hA) rfl rfl ?_
                rintro vr w24 ⟨hv, hs1, ag⟩
                have G := G.trans ag
                have hbf := hbf.upd ag nfs
                have hb_9 := hb_9.upd ag ns__9.symm
                have hb_11 := hb_11.upd ag ns__11.symm
                have hA := hA.updD ag hMs
                have hs := hs1
                obtain ⟨m2, hm2⟩ : ∃ m, mayR A k y.k1 m1.2 (left - 1 - m1.1) = m := ⟨_, rfl⟩
                have hml2 := mayR_rng A k y.k1 m1.2 (left - 1 - m1.1) (by omega)
                rw [hm2] at hml2 hv hs
                subst hv
                refine RL.ev (.assign rfl) rfl rfl ?_
                refine RL.nil (RC.back ?_)
                refine RC.seq ?_
                refine RC.seq ?_
                refine RC.region rfl ?_
                refine RL.ev (.move rfl) rfl rfl ?_
                refine RL.ev (.bin rfl rfl rfl) rfl rfl ?_
                refine RL.ev (.move rfl) rfl rfl ?_
                refine RL.split 93 rfl (fun h26 => ?_) (fun h26 => ?_)
                ·
                  have hres := mayR_bad3 hr0 hy hnb hm1 hc2 hm2 (.inl h26)
                  refine RL.off rfl rfl ?_
                  refine RL.off rfl rfl ?_
                  refine RL.off rfl rfl ?_
                  refine RL.off rfl rfl ?_
                  refine RL.off rfl rfl ?_
                  refine RL.off rfl rfl ?_
                  refine RL.off rfl rfl ?_
                  refine RL.ev (.pick_t rfl rfl) rfl rfl ?_
                  refine RL.nil (RC.back ?_)
                  refine RC.cond_t rfl ?_
                  refine RC.seq ?_
                  refine RC.region rfl ?_
                  refine RL.ev (.assign rfl) rfl rfl ?_
                  refine RL.nil (RC.back ?_)
                  refine RC.done (rs := [.tmp 8]) (vs := [_]) rfl rfl ⟨rfl, trivial⟩ ?_
                  -- end 8
                  rw [hres]
                  exact ⟨rfl, hs, G⟩
                ·
                  have hq0 := h26
                  refine RL.ev (.move rfl) rfl rfl ?_
                  refine RL.ev (.move rfl) rfl rfl ?_
                  refine RL.ev (.as (.bin rfl rfl rfl) (wi64 (y := m1.1 + m2.1) (by rfl) (by omega))) rfl rfl ?_
                  refine RL.ev (.as (.bin rfl rfl rfl) (wi64 (y := m1.1 + m2.1 + 1) (by rfl) (by omega))) rfl rfl ?_
                  refine RL.ev (.field0 fo140_4 rfl) rfl rfl ?_
                  refine RL.ev (.load1 sh2 rfl (hb_9.cell rfl)) rfl rfl ?_
                  refine RL.ev (.bin rfl rfl rfl) rfl rfl ?_
                  refine RL.ev (.pick_f rfl rfl) rfl rfl ?_
                  refine RL.nil (RC.back ?_)
                  refine RC.cond_dec rfl (fun h27 => ?_) (fun h27 => ?_)
                  ·
                    have hres := mayR_bad3 hr0 hy hnb hm1 hc2 hm2 (.inr h27)
                    refine RC.seq ?_
                    refine RC.region rfl ?_
                    refine RL.ev (.assign rfl) rfl rfl ?_
                    refine RL.nil (RC.back ?_)
                    refine RC.done (rs := [.tmp 8]) (vs := [_]) rfl rfl ⟨rfl, trivial⟩ ?_
                    -- end 9
                    rw [hres]
                    exact ⟨rfl, hs, G⟩
                  ·
                    have hres := mayR_good hr0 hy hnb hm1 hc2 hm2 (fun e => e.elim hq0 (fun e => e (Decidable.not_not.1 h27)))
                    refine RC.skip (RC.back ?_)
                    refine RC.seq ?_
                    refine RC.region rfl ?_
                    refine RL.ev (.move rfl) rfl rfl ?_
                    refine RL.ev (.move rfl) rfl rfl ?_
                    refine RL.ev (.as (.bin rfl rfl rfl) (wi64 (y := m1.1 + m2.1) (by rfl) (by omega))) rfl rfl ?_
                    refine RL.ev (.as (.bin rfl rfl rfl) (wi64 (y := m1.1 + m2.1 + 1) (by rfl) (by omega))) rfl rfl ?_
                    refine RL.ev (.assign rfl) rfl rfl ?_
                    refine RL.nil (RC.back ?_)
                    refine RC.done (rs := [.tmp 8]) (vs := [_]) rfl rfl ⟨rfl, trivial⟩ ?_
                    -- end 10
                    rw [hres]
                    exact ⟨rfl, hs, G⟩
/-- are all those rows'? -/
noncomputable def allRows (A : Ar) (l : List Int) : Bool := aokB A && l.all (isRowB A)
theorem mayd_neg {A : Ar} {r : Int} (hA : AOk A) (h : (mayR A 201 r (List.replicate A.nodes.length false) 200).1 < 0) : isRowB A r = false := isRowB_no (fun e => by have := (isRow_iff hA).2 e; omega)
theorem mayd_pos {A : Ar} {r : Int} (hA : AOk A) (h : ¬ (mayR A 201 r (List.replicate A.nodes.length false) 200).1 < 0) : isRowB A r = true := isRowB_yes ((isRow_iff hA).1 (by omega))
theorem allTake {α : Type} {p : α → Bool} {l : List α} {i : Nat} {x : α} (h : l[i]? = some x) (hp : (l.take i).all p = true) (hx : p x = true) : (l.take (i + 1)).all p = true := by
  rw [List.take_add_one, h, List.all_append, hp]; simp [hx]
theorem allNo {α : Type} {p : α → Bool} {l : List α} {i : Nat} {x : α} (h : l[i]? = some x) (hx : p x = false) : l.all p = false := by
  rw [List.all_eq_false]; exact ⟨x, List.mem_of_getElem? h, by rw [hx]; simp⟩
theorem c_dright (A : Ar) (na fa : Option Addr) (nc fc : Nat) (hnc : A.nodes.length ≤ nc) (hfc : A.free.length ≤ fc) (l : List Int) (m : Nat) (hm : m = l.length) (pa : Option Addr) (pc : Nat) (hl : l.length ≤ 10000) (hli : ∀ x ∈ l, U64 x) (w : World) (hA : ArR w na fa A) (hP : Sl w pa 1 (l.map fun x => [u6 x])) :
    FC Tryz.prog 167 [arV na fa nc fc A, .slice pa m pc] w (Val (.bool (allRows A l)) w) := by
  subst hm
  have hN := hA.nodes
  have hFr := hA.free
  have hF : Ft (· < w.heap.size) (fun u => ArR u na fa A) w := Ft.of_sub fun u s => hA.sub s
  refine FC.intro Tryz.func167 rfl Tryz.ntmps167 rfl ?_
  have S := Sub.refl w
  refine RC.seq ?_
  refine RC.region rfl ?_
  refine RL.box rfl rfl rfl (fun b_2 w_2 e_2 z_2 hb_2 s_2 => ?_)
  have ge_2 := S.le e_2
  have S := S.trans s_2
  have hb_2 : Has w_2 b_2 ([.slice na A.nodes.length nc, .slice fa A.free.length fc]) _ := hb_2
  refine RL.ev (.assign rfl) rfl rfl ?_
  refine RL.nil (RC.back ?_)
  refine RC.seq ?_
  refine RC.region rfl ?_
  refine RL.ev (.loadR ([.slice na A.nodes.length nc, .slice fa A.free.length fc]) sh26 rfl hb_2.row rfl) rfl rfl ?_
  refine RL.ev (.buildS ze182 pl182 rfl rfl) rfl rfl ?_
  refine RL.box rfl rfl rfl (fun b_10 w_10 e_10 z_10 hb_10 s_10 => ?_)
  have ge_10 := S.le e_10
  have n_2__10 := hb_2.ne e_10
  have S := S.trans s_10
  have hb_2 := hb_2.sub s_10
  have hb_10 : Has w_10 b_10 (wvC na fa nc fc A 0) 182 := hb_10
  refine RL.ev (.assign rfl) rfl rfl ?_
  refine RL.nil (RC.back ?_)
  refine RC.seq ?_
  refine RC.seq ?_
  refine RC.region rfl ?_
  refine RL.ev (.loadR ([.slice na A.nodes.length nc, .slice fa A.free.length fc]) sh26 rfl hb_2.row rfl) rfl rfl ?_
  refine RL.call rfl ok109 (c_aRight A na fa nc fc w_10 (hA.sub S)) rfl rfl ?_
  rintro _ w1 ⟨rfl, s2⟩
  have S := S.trans s2
  have hb_2 := hb_2.sub s2
  have hb_10 := hb_10.sub s2
  refine RL.ev (.not rfl) rfl rfl ?_
  refine RL.nil (RC.back ?_)
  refine RC.cond rfl (fun h3 => ?_) (fun h3 => ?_)
  ·
    have hno : aokB A = false := (by simpa using h3)
    refine RC.seq ?_
    refine RC.region rfl ?_
    refine RL.ev (.assign rfl) rfl rfl ?_
    refine RL.nil (RC.back ?_)
    refine RC.done (rs := [.tmp 4]) (vs := [_]) rfl rfl ⟨rfl, trivial⟩ ?_
    -- end 1
    rw [allRows, hno]
    exact ⟨rfl, S⟩
  ·
    have hokb : aokB A = true := (by simpa using h3)
    have hok : AOk A := (aokB_iff A).1 hokb
    have hmost := hok.most
    refine RC.skip (RC.back ?_)
    refine RC.seq ?_
    refine RC.seq ?_
    refine RC.region rfl ?_
    refine RL.ev (.move rfl) rfl rfl ?_
    refine RL.ev (.len sl73 rfl) rfl rfl ?_
    refine RL.ev (.move rfl) rfl rfl ?_
    refine RL.nil (RC.back ?_)
    refine RC.block ?_
    refine RC.loop (α := Nat) (fun i => [(2, .pointer (some ⟨b_2, 0, none⟩)), (5, .pointer (some ⟨b_10, 0, none⟩)), (14, .slice pa l.length pc), (15, .int .i64 (l.length : Int)), (16, .int .i64 (i : Int))]) (fun i w4 => i ≤ l.length ∧ (l.take i).all (isRowB A) = true ∧ Has w4 b_2 [.slice na A.nodes.length nc, .slice fa A.free.length fc] 26 ∧ Has w4 b_10 (wvC na fa nc fc A 0) 182 ∧ Sub w w4) (fun i => l.length - i) 0 (keep_of (by repeat (first | exact trivial | refine And.intro rfl ?_))) (⟨Nat.zero_le _, rfl, hb_2, hb_10, S⟩) (fun i w4 hJ => ?_)
    obtain ⟨hi, hp, hb_2, hb_10, S⟩ := hJ
    refine RC.seq ?_
    refine RC.region rfl ?_
    refine RL.ev (.bin rfl rfl rfl) rfl rfl ?_
    refine RL.nil (RC.back ?_)
    refine RC.seq ?_
    refine RC.cond_dec rfl (fun h5 => ?_) (fun h5 => ?_)
    ·
      obtain ⟨y, hy⟩ := getSome (l := l) (i := i) (by omega)
      refine RC.skip (RC.back ?_)
      refine RC.seq ?_
      refine RC.block ?_
      refine RC.seq ?_
      refine RC.region rfl ?_
      refine RL.ev (.indexS sl73 rfl rfl (by omega) (hP.is (i := 0) (by simp only [List.length_map, List.length_cons, List.length_nil]; omega))) rfl rfl ?_
      refine RL.ev (.load1 sh31 rfl ((hP.sub S).one (enc := u6) (i := i) hy)) rfl rfl ?_
      refine RL.ev (.assign rfl) rfl rfl ?_
      refine RL.nil (RC.back ?_)
      refine RC.seq ?_
      refine RC.region rfl ?_
      refine RL.ev (.move rfl) rfl rfl ?_
      refine RL.ev (.move rfl) rfl rfl ?_
      refine RL.ev (.field0 fo26_0 rfl) rfl rfl ?_
      refine RL.ev (.load1 sh23 rfl (hb_2.cell rfl)) rfl rfl ?_
      refine RL.ev (.len sl23 rfl) rfl rfl ?_
      refine RL.makeSlice sl253 ze4 rfl rfl rfl rfl (by omega) rfl rfl (fun b_25 w_25 e_25 z_25 hb_25 s_25 => ?_)
      have ge_25 := S.le e_25
      have n_2__25 := hb_2.ne e_25
      have n_10__25 := hb_10.ne e_25
      have S := S.trans s_25
      have hb_2 := hb_2.sub s_25
      have hb_10 := hb_10.sub s_25
      have hs : Has w_25 b_25 ((List.replicate A.nodes.length false).map Value.bool) 4 := by have := hb_25; rw [List.map_replicate]; rw [Int.toNat_natCast] at this; rw [← rep1]; exact this
      refine RL.call rfl ok229 (c_dmay A na fa nc fc 0 b_10 b_25 n_10__25 (· < w.heap.size) (fun k hk e => by have := ge_25; omega) hmost 201 y (List.replicate A.nodes.length false) 200 w_25 (hli y (List.mem_of_getElem? hy)) (by decide) (by decide) (by decide) List.length_replicate hb_10 hs (hF.sub S)) rfl rfl ?_
      rintro vr w6 ⟨hv, _, ag⟩
      have S := S.upd ag ge_25
      have hb_2 := hb_2.upd ag n_2__25
      have hb_10 := hb_10.upd ag n_10__25
      subst hv
      refine RL.ev (.bin rfl rfl rfl) rfl rfl ?_
      refine RL.nil (RC.back ?_)
      refine RC.cond_dec rfl (fun h8 => ?_) (fun h8 => ?_)
      ·
        have hbad := mayd_neg hok h8
        refine RC.seq ?_
        refine RC.region rfl ?_
        refine RL.ev (.assign rfl) rfl rfl ?_
        refine RL.nil (RC.back ?_)
        refine RC.done (rs := [.tmp 4]) (vs := [_]) rfl rfl ⟨rfl, trivial⟩ ?_
        -- end 2
        rw [allRows, allNo hy hbad, Bool.and_false]
        exact ⟨rfl, S⟩
      ·
        have hgood := mayd_pos hok h8
        refine RC.skip (RC.back ?_)
        refine RC.region rfl ?_
        refine RL.ev (.as (.bin rfl rfl rfl) (wi64 (y := ((i + 1 : Nat) : Int)) (by omega) (by omega))) rfl rfl ?_
        refine RL.ev (.move rfl) rfl rfl ?_
        exact RL.nil (fun a ka => ⟨i + 1, ⟨by omega, allTake hy hp hgood, hb_2, hb_10, S⟩, by omega, ka.keep (keep_of (by repeat (first | exact trivial | refine And.intro rfl ?_)))⟩)
    ·
      obtain rfl : i = l.length := (by omega)
      rw [List.take_length] at hp
      refine RC.exit rfl (RC.back ?_)
      refine RC.seq ?_
      refine RC.region rfl ?_
      refine RL.ev (.assign rfl) rfl rfl ?_
      refine RL.nil (RC.back ?_)
      refine RC.done (rs := [.tmp 4]) (vs := [_]) rfl rfl ⟨rfl, trivial⟩ ?_
      -- end 3
      rw [allRows, hp, hokb]
      exact ⟨rfl, S⟩
theorem isRowB_ok (A : Ar) (r : Int) : (aokB A && isRowB A r) = isRowB A r := by
  cases h : isRowB A r with
  | false => exact Bool.and_false _
  | true => rw [aokB_yes ((isRowB_iff A r).1 h).1]; rfl
theorem allRows_1 (A : Ar) (r : Int) : allRows A [r] = isRowB A r := by rw [allRows, List.all_cons, List.all_nil, Bool.and_true, isRowB_ok]
theorem c_dRight (A : Ar) (na fa : Option Addr) (nc fc : Nat) (hnc : A.nodes.length ≤ nc) (hfc : A.free.length ≤ fc) (r : Int) (hr : U64 r) (w : World) (hA : ArR w na fa A) :
    FC Tryz.prog 97 [arV na fa nc fc A, .int .u64 r] w (Val (.bool (isRowB A r)) w) := by
  have hN := hA.nodes
  have hFr := hA.free
  refine FC.intro Tryz.func97 rfl Tryz.ntmps97 rfl ?_
  have S := Sub.refl w
  refine RC.seq ?_
  refine RC.region rfl ?_
  refine RL.box rfl rfl rfl (fun b_2 w_2 e_2 z_2 hb_2 s_2 => ?_)
  have ge_2 := S.le e_2
  have S := S.trans s_2
  have hb_2 : Has w_2 b_2 ([.slice na A.nodes.length nc, .slice fa A.free.length fc]) _ := hb_2
  refine RL.ev (.assign rfl) rfl rfl ?_
  refine RL.nil (RC.back ?_)
  refine RC.seq ?_
  refine RC.region rfl ?_
  refine RL.ev (.loadR ([.slice na A.nodes.length nc, .slice fa A.free.length fc]) sh26 rfl hb_2.row rfl) rfl rfl ?_
  refine RL.ev (.move rfl) rfl rfl ?_
  refine RL.buildSlice1 sl73 _ ze31 rfl rfl rfl rfl rfl rfl rfl (fun b_7 w_7 e_7 z_7 hb_7 s_7 => ?_)
  have ge_7 := S.le e_7
  have n_2__7 := hb_2.ne e_7
  have S := S.trans s_7
  have hb_2 := hb_2.sub s_7
  refine RL.call rfl ok167 (c_dright A na fa nc fc hnc hfc [r] 1 rfl (some ⟨b_7, 0, none⟩) 1 (Nat.le_of_ble_eq_true rfl) (fun x hx => by rw [List.mem_singleton] at hx; rw [hx]; exact hr) w_7 (hA.sub S) (Has.sl1 (enc := u6) (l := [r]) hb_7)) rfl rfl ?_
  rintro _ w1 ⟨rfl, s2⟩
  have S := S.trans s2
  have hb_2 := hb_2.sub s2
  have hb_7 := hb_7.sub s2
  refine RL.ev (.assign rfl) rfl rfl ?_
  refine RL.nil (RC.back ?_)
  refine RC.done (rs := [.tmp 4]) (vs := [_]) rfl rfl ⟨rfl, trivial⟩ ?_
  -- end 1
  refine ⟨congrArg Value.bool (allRows_1 A r), S⟩
end Go.Proofs.YtbjmllnddanniaaGreat
set_option linter.unusedVariables false
set_option linter.unusedSimpArgs false
namespace Go.Proofs.YtbjmllnddanniaaGreat
open Go Go.XL
theorem IsR.root {A : Ar} {r : Int} {V P : List Int} {x : Node} (h : IsR A r V P) (hx : getA A r = some x) : placeR r ∈ P := by
  cases h with
  | nil => rw [getA_00] at hx; cases hx
  | node => simp
theorem isRow_len {A : Ar} {r : Int} {V P : List Int} (h : isRow A r) (hV : IsR A r V P) : V.length ≤ 200 := by
  obtain ⟨_, V', P', h1, h2⟩ := h
  rw [(h1.unique hV).1]; exact h2
theorem rowsL (A : Ar) (r : Int) : ∃ V P, isRow A r → IsR A r V P := by
  by_cases h : isRow A r
  · obtain ⟨_, V, P, hL, _⟩ := id h; exact ⟨V, P, fun _ => hL⟩
  · exact ⟨[], [], fun h' => absurd h' h⟩
end Go.Proofs.YtbjmllnddanniaaGreat
set_option linter.unusedVariables false
set_option linter.unusedSimpArgs false
namespace Go.Proofs.YtbjmllnddanniaaGreat
open Go Go.XL
def rowFn (b6 b8 b7 : Nat) : Value := .func (.func 98) #[] #[.pointer (some ⟨b6, 0, none⟩), .pointer (some ⟨b8, 0, none⟩), .pointer (some ⟨b7, 0, none⟩)]
structure RW (w0 : World) (E b6 b8 b7 b15 : Nat) (C : Nat → Prop) (A : Ar) (out : List Int) (a : Option Addr) (c : Nat) (w : World) : Prop where
  h6 : Has w b6 [.pointer (some ⟨b15, 0, none⟩)] 180
  h8 : Has w b8 [rowFn b6 b8 b7] 183
  h7 : Has w b7 [.slice a (out.map fun x => [i6 x]).length c] 43
  hF : Ft C (Wo b15 (A, 0) C) w
  o : Ows E w 2 1 (.slice a (out.map fun x => [i6 x]).length c) (out.map fun x => [i6 x])
  sz : E ≤ w.heap.size
  S : Sub w0 w
structure RWok (w0 : World) (E b6 b8 b7 : Nat) (C : Nat → Prop) : Prop where
  l6 : b6 < E
  l8 : b8 < E
  l7 : b7 < E
  n67 : b6 ≠ b7
  n87 : b8 ≠ b7
  dC : ∀ k, C k → k ≠ b7
  dE : ∀ k, C k → k < E
  g7 : w0.heap.size ≤ b7
  gE : w0.heap.size ≤ E
set_option maxHeartbeats 1000000 in
theorem c_drow1 (w0 : World) (E b6 b8 b7 b15 : Nat) (C : Nat → Prop) (hB : RWok w0 E b6 b8 b7 C) (A : Ar) {r : Int} {V P : List Int} (hV : IsR A r V P) : ∀ (out : List Int) (a : Option Addr) (c : Nat) (K : Nat → Prop) (I : World → Prop) (w : World), U64 r → out.length + V.length ≤ 1000 → RW w0 E b6 b8 b7 b15 C A out a c w → Ft K I w → (∀ k, K k → k ≠ b7) → (∀ k, ob (.slice a (out.map fun x => [i6 x]).length c) = some k → K k → False) →
    FC Tryz.prog 98 [.int .u64 r, .pointer (some ⟨b6, 0, none⟩), .pointer (some ⟨b8, 0, none⟩), .pointer (some ⟨b7, 0, none⟩)] w (fun _ w' => ∃ a' c', RW w0 E b6 b8 b7 b15 C A (out ++ V) a' c' w' ∧ Ft K I w' ∧ ∀ k, ob (.slice a' ((out ++ V).map fun x => [i6 x]).length c') = some k → K k → False) := by
  obtain ⟨l6, l8, l7, n67, n87, dC, dE, g7, gE⟩ := hB
  induction hV with
  | nil =>
    intro out a c K I w hr hl hs hI hK7 hKo
    refine FC.intro Tryz.func98 rfl Tryz.ntmps98 rfl ?_
    refine RC.seq ?_
    refine RC.seq ?_
    refine RC.region rfl ?_
    refine RL.ev (.move rfl) rfl rfl ?_
    refine RL.ev (.bin rfl rfl rfl) rfl rfl ?_
    refine RL.nil (RC.back ?_)
    refine RC.cond_dec rfl (fun h1 => ?_) (fun h1 => ?_)
    ·
      refine RC.done (rs := []) (vs := []) rfl rfl trivial ?_
      -- end 1
      rw [List.append_nil]
      exact ⟨a, c, hs, hI, hKo⟩
    ·
      exact absurd rfl h1
  | @node r g v ra rb L R P Q t1 t2 t3 t4 ih1 ih2 =>
    intro out a c K I w hr hl hs hI hK7 hKo
    obtain ⟨x, hx, hxv, hxa, hxb⟩ : ∃ x, getA A r = some x ∧ x.v = v ∧ x.k0 = ra ∧ x.k1 = rb := ⟨_, t1, rfl, rfl, rfl⟩
    obtain ⟨q6, q8, q7, hF, o, szB, S⟩ := hs
    have hgx := getN_yes hx
    have hxo := hF.now.nok x (getA_nok hx)
    have hr0 : ¬ r = 0 := fun e => by rw [e, getA_00] at hx; cases hx
    have hk0 : U64 x.k0 := hxo.kids _ (by simp [Node.kids])
    have hk1 : U64 x.k1 := hxo.kids _ (by simp [Node.kids])
    clear t1
    subst hxv hxa hxb
    rw [List.length_append, List.length_cons] at hl
    have ge7 := g7
    have ge6 : True := trivial
    refine FC.intro Tryz.func98 rfl Tryz.ntmps98 rfl ?_
    have doF : ∀ k, ob (.slice a (out.map fun x => [i6 x]).length c) = some k → C k → False := (fun k h1 h2 => by have := (o.ge k h1).1; have := dE k h2; omega)
    refine RC.seq ?_
    refine RC.seq ?_
    refine RC.region rfl ?_
    refine RL.ev (.move rfl) rfl rfl ?_
    refine RL.ev (.bin rfl rfl rfl) rfl rfl ?_
    refine RL.nil (RC.back ?_)
    refine RC.cond_dec rfl (fun h1 => ?_) (fun h1 => ?_)
    ·
      exact absurd h1 hr0
    ·
      refine RC.skip (RC.back ?_)
      refine RC.seq ?_
      refine RC.region rfl ?_
      refine RL.ev (.load1 sh180 rfl (q6.cell rfl)) rfl rfl ?_
      refine RL.ev (.move rfl) rfl rfl ?_
      refine RL.call rfl ok99 ((hgx ▸ c_wget b15 (A, 0) C r hr w hF)) rfl rfl ?_
      rintro _ w2 ⟨rfl, s3⟩
      have S := S.trans s3
      have q6 := q6.sub s3
      have q8 := q8.sub s3
      have q7 := q7.sub s3
      have hF := hF.sub s3
      have o := o.sub s3
      have hI := hI.sub s3
      have szB := Nat.le_trans szB s3.size
      refine RL.alloc ze140 rfl rfl (fun b_5 w_5 e_5 z_5 hb_5 s_5 => ?_)
      have ge_5 := S.le e_5
      have n6__5 := q6.ne e_5
      have n8__5 := q8.ne e_5
      have n7__5 := q7.ne e_5
      have d_hF_b_5 := hF.neNew e_5
      have d_o_b_5 := o.neNew e_5
      have d_hI_b_5 := hI.neNew e_5
      have S := S.trans s_5
      have q6 := q6.sub s_5
      have q8 := q8.sub s_5
      have q7 := q7.sub s_5
      have hF := hF.sub s_5
      have o := o.sub s_5
      have hI := hI.sub s_5
      have szB := Nat.le_trans szB s_5.size
      refine RL.store sh140 rfl rfl rfl hb_5 (by exact Nat.le_of_ble_eq_true rfl) (by rfl) rfl (fun w4 z4 hb_5 a4 => ?_)
      have S := S.upd a4 ge_5
      have q6 := q6.upd a4 n6__5
      have q8 := q8.upd a4 n8__5
      have q7 := q7.upd a4 n7__5
      have hF := hF.updD a4 d_hF_b_5
      have o := o.updD a4 d_o_b_5
      have hI := hI.updD a4 d_hI_b_5
      have szB := Nat.le_trans szB a4.size
      have hb_5 : Has w4 b_5 (x.cells) _ := hb_5.now (by kernel_rfl)
      refine RL.nil (RC.back ?_)
      refine RC.seq ?_
      refine RC.region rfl ?_
      refine RL.ev (.load1 sh183 rfl (q8.cell rfl)) rfl rfl ?_
      refine RL.ev (.field0 fo140_5 rfl) rfl rfl ?_
      refine RL.ev (.indexArr ar138 rfl rfl (by omega)) rfl rfl ?_
      refine RL.ev (.load1 sh31 rfl (hb_5.cell rfl)) rfl rfl ?_
      refine RL.callv rfl rfl (us := []) (cs := [.pointer (some ⟨b6, 0, none⟩), .pointer (some ⟨b8, 0, none⟩), .pointer (some ⟨b7, 0, none⟩)]) ok98 (ih1 out a c (fun k => K k ∨ k = b_5) (fun u => Ft K I u ∧ Has u b_5 x.cells 140) w4 hk0 (by omega) ⟨q6, q8, q7, hF, o, szB, S⟩ (hI.self.and hb_5.ft) (fun k hk => hk.elim (hK7 k) (fun e e2 => by omega)) (fun k h1 h2 => h2.elim (hKo k h1) (fun e => d_o_b_5 k h1 e))) rfl rfl ?_
      rintro _ w5 ⟨a2, c2, ⟨q6, q8, q7, hF, o, szB, S⟩, hI2, hKo2⟩
      have hI := hI2.now.1
      have hb_5 := hI2.now.2
      have hKo3 : ∀ k, ob (.slice a2 ((out ++ L).map fun x => [i6 x]).length c2) = some k → K k → False := (fun k h1 h2 => hKo2 k h1 (.inl h2))
      have d_o2_5 : ∀ k, ob (.slice a2 ((out ++ L).map fun x => [i6 x]).length c2) = some k → k ≠ b_5 := (fun k h1 h2 => hKo2 k h1 (.inr h2))
      have doF2 : ∀ k, ob (.slice a2 ((out ++ L).map fun x => [i6 x]).length c2) = some k → C k → False := (fun k h1 h2 => by have := (o.ge k h1).1; have := dE k h2; omega)
      obtain ⟨O, hO⟩ : ∃ O, O = out ++ L := ⟨_, rfl⟩
      rw [← hO] at q7 o hKo3 d_o2_5 doF2
      have hOl : O.length = out.length + L.length := (by rw [hO, List.length_append])
      have do6 : ∀ k, ob (.slice a2 (O.map fun x => [i6 x]).length c2) = some k → k ≠ b6 := (fun k hk e => by have := (o.ge k hk).1; omega)
      have do8 : ∀ k, ob (.slice a2 (O.map fun x => [i6 x]).length c2) = some k → k ≠ b8 := (fun k hk e => by have := (o.ge k hk).1; omega)
      have do7 : ∀ k, ob (.slice a2 (O.map fun x => [i6 x]).length c2) = some k → k ≠ b7 := (fun k hk e => by have := (o.ge k hk).1; omega)
      refine RL.nil (RC.back ?_)
      refine RC.seq ?_
      refine RC.region rfl ?_
      refine RL.ev (.load1 sh43 rfl (q7.cell rfl)) rfl rfl ?_
      refine RL.ev (.field0 fo140_3 rfl) rfl rfl ?_
      refine RL.ev (.load1 sh2 rfl (hb_5.cell rfl)) rfl rfl ?_
      refine RL.buildSlice1 sl43 _ ze2 rfl rfl rfl rfl rfl rfl rfl (fun b_19 w_19 e_19 z_19 hb_19 s_19 => ?_)
      have ge_19 := S.le e_19
      have n6__19 := q6.ne e_19
      have n8__19 := q8.ne e_19
      have n7__19 := q7.ne e_19
      have n_5__19 := hb_5.ne e_19
      have d_hF_b_19 := hF.neNew e_19
      have d_o_b_19 := o.neNew e_19
      have d_hI_b_19 := hI.neNew e_19
      have S := S.trans s_19
      have q6 := q6.sub s_19
      have q8 := q8.sub s_19
      have q7 := q7.sub s_19
      have hF := hF.sub s_19
      have o := o.sub s_19
      have hI := hI.sub s_19
      have szB := Nat.le_trans szB s_19.size
      have hb_5 := hb_5.sub s_19
      have sz_20 := S.size
      have ltb6_20 := q6.lt
      have ltb8_20 := q8.lt
      have ltb7_20 := q7.lt
      have ltb_5_20 := hb_5.lt
      have ltb_19_20 := hb_19.lt
      refine RL.append2 (base := E) (rows := O.map fun x => [i6 x]) (news := [_]) sl43 ze2 rfl rfl rfl rfl (.inl o) (Has.slOne hb_19) rfl (by intro r hr; rw [List.mem_singleton] at hr; subst hr; rfl) rfl (by (try simp only [List.length_map, List.length_nil, List.length_append, List.length_cons]); omega) (by (try simp only [List.length_map, List.length_nil, List.length_append, List.length_cons]); omega) (by omega) rfl rfl (fun v_20 w_20 hc_20 ho_20 ag_20 ob_20 => ?_)
      have o20 := ho_20 (.inl (by simp))
      rw [show _ ++ [_] = ((O ++ [x.v]).map fun x => [i6 x]) from by rw [List.map_append]; rfl] at o20
      have d_o20_b6 := obNe ob_20 do6 q6.lt
      have d_o20_b8 := obNe ob_20 do8 q8.lt
      have d_o20_b7 := obNe ob_20 do7 q7.lt
      have dd_o20_hF := obDF ob_20 doF2 (fun k hk => (hF.ge k hk).2)
      have dd_o20_hI := obDF ob_20 hKo3 (fun k hk => (hI.ge k hk).2)
      have d_o20_b_5 := obNe ob_20 d_o2_5 hb_5.lt
      have S := S.agrN ag_20 (fun k e => Nat.le_trans (by omega) e.2)
      have q6 := q6.step ag_20 (fun e => do6 _ e.1 rfl)
      have q8 := q8.step ag_20 (fun e => do8 _ e.1 rfl)
      have q7 := q7.step ag_20 (fun e => do7 _ e.1 rfl)
      have hF := hF.step ag_20 (fun k hk e => doF2 k e.1 hk)
      have hI := hI.step ag_20 (fun k hk e => hKo3 k e.1 hk)
      have szB := Nat.le_trans szB ag_20.size
      have hb_5 := hb_5.step ag_20 (fun e => d_o2_5 _ e.1 rfl)
      obtain ⟨a_20, c_20, rfl, k_20⟩ := o20.form
      refine RL.store sh43 rfl rfl rfl q7 (by exact Nat.le_of_ble_eq_true rfl) (by rfl) rfl (fun w7 z7 q7 a7 => ?_)
      have S := S.upd a7 ge7
      have q6 := q6.upd a7 n67
      have q8 := q8.upd a7 n87
      have hF := hF.updD a7 dC
      have hI := hI.updD a7 hK7
      have szB := Nat.le_trans szB a7.size
      have hb_5 := hb_5.upd a7 n7__5.symm
      have o20 := o20.updD a7 d_o20_b7
      have q7 : Has w7 b7 ([.slice a_20 ((O ++ [x.v]).map fun x => [i6 x]).length c_20]) _ := q7
      refine RL.nil (RC.back ?_)
      refine RC.region rfl ?_
      refine RL.ev (.load1 sh183 rfl (q8.cell rfl)) rfl rfl ?_
      refine RL.ev (.field0 fo140_5 rfl) rfl rfl ?_
      refine RL.ev (.indexArr ar138 rfl rfl (by omega)) rfl rfl ?_
      refine RL.ev (.load1 sh31 rfl (hb_5.cell rfl)) rfl rfl ?_
      refine RL.callv rfl rfl (us := []) (cs := [.pointer (some ⟨b6, 0, none⟩), .pointer (some ⟨b8, 0, none⟩), .pointer (some ⟨b7, 0, none⟩)]) ok98 (ih2 (O ++ [x.v]) a_20 c_20 K I w7 hk1 (by simp only [List.length_append, List.length_singleton]; omega) ⟨q6, q8, q7, hF, o20, szB, S⟩ hI hK7 dd_o20_hI) rfl rfl ?_
      rintro _ w8 ⟨a4, c4, hs4, hI4, hKo4⟩
      refine RL.nil ?_
      refine fun a ka => ⟨ka.defers, _, run_results (rs := []) (vs := []) ka rfl trivial, ?_⟩
      -- end 1
      rw [show out ++ (L ++ x.v :: R) = O ++ [x.v] ++ R by rw [hO]; simp]
      exact ⟨a4, c4, hs4, hI4, hKo4⟩
end Go.Proofs.YtbjmllnddanniaaGreat
set_option linter.unusedVariables false
set_option linter.unusedSimpArgs false
namespace Go.Proofs.YtbjmllnddanniaaGreat
open Go Go.XL
theorem c_dRowO (A : Ar) (na fa : Option Addr) (nc fc : Nat) (hnc : A.nodes.length ≤ nc) (hfc : A.free.length ≤ fc) (r : Int) (hr : U64 r) (w : World) (hA : ArR w na fa A) :
    FC Tryz.prog 44 [arV na fa nc fc A, .int .u64 r] w (fun v w' => Sub w w' ∧ ∃ a c V e, v = .tuple #[.slice a (V.map fun x => [i6 x]).length c, .int .i64 e] ∧ V.length ≤ c ∧ Ows w.heap.size w' 2 1 (.slice a (V.map fun x => [i6 x]).length c) (V.map fun x => [i6 x]) ∧ (¬ isRow A r → V = [] ∧ e = 1) ∧ ∀ V' P, isRow A r → IsR A r V' P → V = V' ∧ e = 0) := by
  have hN := hA.nodes
  have hFr := hA.free
  have hG : Ft (· < w.heap.size) (fun u => ArR u na fa A) w := Ft.of_sub fun u s => hA.sub s
  obtain ⟨V, P, hm⟩ := rowsL A r
  refine FC.intro Tryz.func44 rfl Tryz.ntmps44 rfl ?_
  have S := Sub.refl w
  refine RC.seq ?_
  refine RC.region rfl ?_
  refine RL.box rfl rfl rfl (fun b_2 w_2 e_2 z_2 hb_2 s_2 => ?_)
  have ge_2 := S.le e_2
  have S := S.trans s_2
  have hb_2 : Has w_2 b_2 ([.slice na A.nodes.length nc, .slice fa A.free.length fc]) _ := hb_2
  refine RL.ev (.assign rfl) rfl rfl ?_
  refine RL.ev (.assign rfl) rfl rfl ?_
  refine RL.nil (RC.back ?_)
  refine RC.seq ?_
  refine RC.seq ?_
  refine RC.region rfl ?_
  refine RL.ev (.loadR ([.slice na A.nodes.length nc, .slice fa A.free.length fc]) sh26 rfl hb_2.row rfl) rfl rfl ?_
  refine RL.ev (.move rfl) rfl rfl ?_
  refine RL.call rfl ok97 (c_dRight A na fa nc fc hnc hfc r hr w_2 (hA.sub S)) rfl rfl ?_
  rintro _ w1 ⟨rfl, s2⟩
  have S := S.trans s2
  have hb_2 := hb_2.sub s2
  refine RL.ev (.not rfl) rfl rfl ?_
  refine RL.nil (RC.back ?_)
  refine RC.cond rfl (fun h3 => ?_) (fun h3 => ?_)
  ·
    have hno : ¬ isRow A r := (fun h => by have h2 := h3; rw [isRowB_yes h] at h2; cases h2)
    refine RC.seq ?_
    refine RC.region rfl ?_
    refine RL.ev (.assign rfl) rfl rfl ?_
    refine RL.ev (.assign rfl) rfl rfl ?_
    refine RL.nil (RC.back ?_)
    refine RC.done (rs := [.tmp 4, .tmp 5]) (vs := [_, _]) rfl rfl ⟨rfl, rfl, trivial⟩ ?_
    -- end 1
    exact ⟨S, none, 0, [], 1, rfl, Nat.le_refl _, Ows.nil _ _ _ _, fun _ => ⟨rfl, rfl⟩, fun V' P' h => absurd h hno⟩
  ·
    have hmap : isRow A r := (isRowB_iff A r).1 (by simpa using h3)
    have hV := hm hmap
    have hVl := isRow_len hmap hV
    refine RC.skip (RC.back ?_)
    refine RC.seq ?_
    refine RC.region rfl ?_
    refine RL.ev (.loadR ([.slice na A.nodes.length nc, .slice fa A.free.length fc]) sh26 rfl hb_2.row rfl) rfl rfl ?_
    refine RL.ev (.buildS ze182 pl182 rfl rfl) rfl rfl ?_
    refine RL.box rfl rfl rfl (fun b_15 w_15 e_15 z_15 hb_15 s_15 => ?_)
    have ge_15 := S.le e_15
    have n_2__15 := hb_2.ne e_15
    have S := S.trans s_15
    have hb_2 := hb_2.sub s_15
    have hb_15 : Has w_15 b_15 (wvC na fa nc fc A 0) 182 := hb_15
    have hG1 := hG.sub S
    have hF := FoG.ft (s := (A, 0)) hb_15 hnc hfc hG1 (fun e => by have := ge_15; omega)
    refine RL.alloc ze180 rfl rfl (fun b_6 w_6 e_6 z_6 hb_6 s_6 => ?_)
    have ge_6 := S.le e_6
    have n_2__6 := hb_2.ne e_6
    have d_hF_b_6 := hF.neNew e_6
    have S := S.trans s_6
    have hb_2 := hb_2.sub s_6
    have hF := hF.sub s_6
    refine RL.store sh180 rfl rfl rfl hb_6 (by exact Nat.le_of_ble_eq_true rfl) (by rfl) rfl (fun w4 z4 hb_6 a4 => ?_)
    have S := S.upd a4 ge_6
    have hb_2 := hb_2.upd a4 n_2__6
    have hF := hF.updD a4 d_hF_b_6
    refine RL.nil (RC.back ?_)
    refine RC.seq ?_
    refine RC.region rfl ?_
    refine RL.alloc ze43 rfl rfl (fun b_7 w_7 e_7 z_7 hb_7 s_7 => ?_)
    have ge_7 := S.le e_7
    have n_2__7 := hb_2.ne e_7
    have n_6__7 := hb_6.ne e_7
    have d_hF_b_7 := hF.neNew e_7
    have S := S.trans s_7
    have hb_2 := hb_2.sub s_7
    have hF := hF.sub s_7
    have hb_6 := hb_6.sub s_7
    have dF7 : ∀ k, (k = b_15 ∨ k < w.heap.size) → k ≠ b_7 := d_hF_b_7
    refine RL.nil (RC.back ?_)
    refine RC.seq ?_
    refine RC.region rfl ?_
    refine RL.alloc ze183 rfl rfl (fun b_8 w_8 e_8 z_8 hb_8 s_8 => ?_)
    have ge_8 := S.le e_8
    have n_2__8 := hb_2.ne e_8
    have n_6__8 := hb_6.ne e_8
    have n_7__8 := hb_7.ne e_8
    have d_hF_b_8 := hF.neNew e_8
    have S := S.trans s_8
    have hb_2 := hb_2.sub s_8
    have hF := hF.sub s_8
    have hb_6 := hb_6.sub s_8
    have hb_7 := hb_7.sub s_8
    refine RL.nil (RC.back ?_)
    refine RC.seq ?_
    refine RC.region rfl ?_
    refine RL.ev (.func (xs := []) (ys := [_, _, _]) rfl rfl) rfl rfl ?_
    refine RL.store sh183 rfl rfl rfl hb_8 (by exact Nat.le_of_ble_eq_true rfl) (by rfl) rfl (fun w5 z5 hb_8 a5 => ?_)
    have S := S.upd a5 ge_8
    have hb_2 := hb_2.upd a5 n_2__8
    have hF := hF.updD a5 d_hF_b_8
    have hb_6 := hb_6.upd a5 n_6__8
    have hb_7 := hb_7.upd a5 n_7__8
    have hb_8 : Has w5 b_8 ([rowFn b_6 b_8 b_7]) _ := hb_8
    obtain ⟨E, hE⟩ : ∃ E, E = w5.heap.size := ⟨_, rfl⟩
    have l6 := hb_6.lt
    have l7 := hb_7.lt
    have l8 := hb_8.lt
    have lF := hF.lt
    have szS := S.size
    rw [← hE] at l6 l7 l8 lF szS
    have hB : RWok w E b_6 b_8 b_7 (fun k => k = b_15 ∨ k < w.heap.size) := ⟨l6, l8, l7, n_6__7, n_7__8.symm, dF7, lF, ge_7, szS⟩
    refine RL.nil (RC.back ?_)
    refine RC.seq ?_
    refine RC.region rfl ?_
    refine RL.ev (.load1 sh183 rfl (hb_8.cell rfl)) rfl rfl ?_
    refine RL.ev (.move rfl) rfl rfl ?_
    refine RL.callv rfl rfl (us := []) (cs := [.pointer (some ⟨b_6, 0, none⟩), .pointer (some ⟨b_8, 0, none⟩), .pointer (some ⟨b_7, 0, none⟩)]) ok98 (c_drow1 w E b_6 b_8 b_7 b_15 _ hB A hV [] none 0 (fun _ => False) (fun _ => True) w5 hr (by simp only [List.length_nil]; omega) ⟨hb_6, hb_8, hb_7, hF, Ows.nil _ _ _ _, by rw [hE]; exact Nat.le_refl _, S⟩ ⟨fun _ h => h.elim, fun _ _ => trivial⟩ (fun _ h => h.elim) (fun _ _ h => h.elim)) rfl rfl ?_
    rintro _ w6 ⟨a2, c2, ⟨q6, q8, hb_7, hF, o, szB, S⟩, _, _⟩
    rw [List.nil_append] at hb_7 o
    refine RL.nil (RC.back ?_)
    refine RC.seq ?_
    refine RC.region rfl ?_
    refine RL.ev (.load1 sh43 rfl (hb_7.cell rfl)) rfl rfl ?_
    refine RL.ev (.assign rfl) rfl rfl ?_
    refine RL.ev (.assign rfl) rfl rfl ?_
    refine RL.nil (RC.back ?_)
    refine RC.done (rs := [.tmp 4, .tmp 5]) (vs := [_, _]) rfl rfl ⟨rfl, rfl, trivial⟩ ?_
    -- end 2
    have hoc : V.length ≤ c2 := (by obtain ⟨_, c', e, h⟩ := o.form; cases e; rw [List.length_map] at h; exact h)
    exact ⟨S, a2, c2, V, 0, rfl, hoc, o.low szS, fun h => absurd hmap h, fun V' P' _ hV' => ⟨(hV'.unique hV).1, rfl⟩⟩
theorem c_wAllO (A : Ar) (na fa : Option Addr) (nc fc : Nat) (hnc : A.nodes.length ≤ nc) (hfc : A.free.length ≤ fc) (r : Int) (hr : U64 r) (w : World) (hA : ArR w na fa A) :
    FC Tryz.prog 15 [arV na fa nc fc A, .int .u64 r] w (fun v w' => Sub w w' ∧ ∃ a c rows e, v = .tuple #[.slice a rows.length c, .int .i64 e] ∧ rows.length ≤ c ∧ Ows w.heap.size w' 51 2 (.slice a rows.length c) (rows.map It.cells) ∧ (¬ isTab A r → rows = [] ∧ e = 1) ∧ (isTab A r → rows = rowH A r ∧ e = 0)) := by
  have hNd := hA.nodes
  have hFr := hA.free
  refine FC.intro Tryz.func15 rfl Tryz.ntmps15 rfl ?_
  have S := Sub.refl w
  refine RC.seq ?_
  refine RC.region rfl ?_
  refine RL.box rfl rfl rfl (fun b_2 w_2 e_2 z_2 hb_2 s_2 => ?_)
  have ge_2 := S.le e_2
  have S := S.trans s_2
  have hb_2 : Has w_2 b_2 ([.slice na A.nodes.length nc, .slice fa A.free.length fc]) _ := hb_2
  refine RL.ev (.assign rfl) rfl rfl ?_
  refine RL.ev (.assign rfl) rfl rfl ?_
  refine RL.nil (RC.back ?_)
  refine RC.seq ?_
  refine RC.seq ?_
  refine RC.region rfl ?_
  refine RL.ev (.loadR ([.slice na A.nodes.length nc, .slice fa A.free.length fc]) sh26 rfl hb_2.row rfl) rfl rfl ?_
  refine RL.ev (.move rfl) rfl rfl ?_
  refine RL.call rfl ok51 (c_hRight A na fa nc fc hnc hfc r hr w_2 (hA.sub S)) rfl rfl ?_
  rintro _ w1 ⟨rfl, s2⟩
  have S := S.trans s2
  have hb_2 := hb_2.sub s2
  refine RL.ev (.not rfl) rfl rfl ?_
  refine RL.nil (RC.back ?_)
  refine RC.cond rfl (fun h3 => ?_) (fun h3 => ?_)
  ·
    have hno : ¬ isTab A r := (fun h => by have h2 := h3; rw [isTabB_yes h] at h2; cases h2)
    refine RC.seq ?_
    refine RC.region rfl ?_
    refine RL.ev (.assign rfl) rfl rfl ?_
    refine RL.ev (.assign rfl) rfl rfl ?_
    refine RL.nil (RC.back ?_)
    refine RC.done (rs := [.tmp 4, .tmp 5]) (vs := [_, _]) rfl rfl ⟨rfl, rfl, trivial⟩ ?_
    -- end 1
    exact ⟨S, none, 0, [], 1, rfl, Nat.le_refl _, Ows.nil _ _ _ _, fun _ => ⟨rfl, rfl⟩, fun h => absurd h hno⟩
  ·
    have hyes : isTab A r := (isTabB_iff A r).1 (by simpa using h3)
    obtain ⟨_, L, hT, hap, hl⟩ := id hyes
    refine RC.skip (RC.back ?_)
    refine RC.seq ?_
    refine RC.region rfl ?_
    refine RL.ev (.loadR ([.slice na A.nodes.length nc, .slice fa A.free.length fc]) sh26 rfl hb_2.row rfl) rfl rfl ?_
    refine RL.ev (.move rfl) rfl rfl ?_
    refine RL.call rfl ok53 (c_wleaves A na fa nc fc r w1) rfl rfl ?_
    rintro _ w4 ⟨bA, bR, rfl, hbA, hbR, s5⟩
    have S := S.trans s5
    have hb_2 := hb_2.sub s5
    refine RL.call rfl ok52 (c_collect A na fa nc fc r hr L hT hl bA bR w4 (hA.sub S) hbA hbR) rfl rfl ?_
    rintro _ w6 ⟨s7, a1, c1, rfl, o⟩
    have o := o.low S.size
    have S := S.trans s7
    have hb_2 := hb_2.sub s7
    refine RL.ev (.assign rfl) rfl rfl ?_
    refine RL.ev (.assign rfl) rfl rfl ?_
    refine RL.nil (RC.back ?_)
    refine RC.done (rs := [.tmp 4, .tmp 5]) (vs := [_, _]) rfl rfl ⟨rfl, rfl, trivial⟩ ?_
    -- end 2
    exact ⟨S, a1, c1, rowH A r, 0, by rw [List.length_map]; rfl, (by obtain ⟨_, c', e, h⟩ := o.form; cases e; rw [List.length_map] at h; exact h), (by rw [List.length_map] at o; exact o), fun h => absurd hyes h, fun _ => ⟨rfl, rfl⟩⟩
end Go.Proofs.YtbjmllnddanniaaGreat
set_option linter.unusedVariables false
set_option linter.unusedSimpArgs false
namespace Go.Proofs.YtbjmllnddanniaaGreat
open Go Go.XL
def sortIt_ren : Go.Shelf.Ren := ⟨fun | 6 => 47 | 15 => 106 | 14 => 105 | 28 => 180 | 29 => 181 | 20 => 172 | 21 => 173 | 22 => 174 | 23 => 175 | 24 => 176 | 25 => 177 | 26 => 178 | 27 => 179 | 46 => 233 | 47 => 234 | 48 => 235 | 49 => 236 | 50 => 237 | 57 => 275 | n => n, fun | 22 => 42 | 24 => 51 | 25 => 121 | 3 => 3 | 39 => 190 | 0 => 0 | 53 => 263 | 55 => 30 | 4 => 4 | 46 => 257 | 45 => 256 | 50 => 151 | 5 => 5 | 9 => 9 | 66 => 311 | 70 => 315 | 76 => 350 | 77 => 351 | n => n, fun n => n⟩
theorem sortIt : SlLaysF0.n6 Tryz.prog sortIt_ren := {
  mixed := by kernel_rfl,
  f6 := ⟨Tryz.f47.name, by decide, Tryz.func47.trans (congrArg some (by kernel_rfl))⟩,
  f14 := ⟨Tryz.f105.name, by decide, Tryz.func105.trans (congrArg some (by kernel_rfl))⟩,
  f15 := Tryz.func106.trans (congrArg some (by kernel_rfl)),
  f20 := ⟨Tryz.f172.name, by decide, Tryz.func172.trans (congrArg some (by kernel_rfl))⟩,
  f21 := ⟨Tryz.f173.name, by decide, Tryz.func173.trans (congrArg some (by kernel_rfl))⟩,
  f22 := ⟨Tryz.f174.name, by decide, Tryz.func174.trans (congrArg some (by kernel_rfl))⟩,
  f23 := ⟨Tryz.f175.name, by decide, Tryz.func175.trans (congrArg some (by kernel_rfl))⟩,
  f24 := ⟨Tryz.f176.name, by decide, Tryz.func176.trans (congrArg some (by kernel_rfl))⟩,
  f25 := ⟨Tryz.f177.name, by decide, Tryz.func177.trans (congrArg some (by kernel_rfl))⟩,
  f26 := ⟨Tryz.f178.name, by decide, Tryz.func178.trans (congrArg some (by kernel_rfl))⟩,
  f27 := ⟨Tryz.f179.name, by decide, Tryz.func179.trans (congrArg some (by kernel_rfl))⟩,
  f28 := Tryz.func180.trans (congrArg some (by kernel_rfl)),
  f29 := Tryz.func181.trans (congrArg some (by kernel_rfl)),
  f46 := ⟨Tryz.f233.name, by decide, Tryz.func233.trans (congrArg some (by kernel_rfl))⟩,
  f47 := Tryz.func234.trans (congrArg some (by kernel_rfl)),
  f48 := Tryz.func235.trans (congrArg some (by kernel_rfl)),
  f49 := ⟨Tryz.f236.name, by decide, Tryz.func236.trans (congrArg some (by kernel_rfl))⟩,
  f50 := ⟨Tryz.f237.name, by decide, Tryz.func237.trans (congrArg some (by kernel_rfl))⟩,
  f57 := ⟨Tryz.f275.name, by decide, Tryz.func275.trans (congrArg some (by kernel_rfl))⟩,
  t0 := Tryz.underlying0,
  a0 := Tryz.isAgg0,
  z0 := Tryz.sizeOf0,
  v0 := Tryz.zeroValue0,
  t3 := Tryz.underlying3,
  a3 := Tryz.isAgg3,
  z3 := Tryz.sizeOf3,
  v3 := Tryz.zeroValue3,
  t4 := Tryz.underlying4,
  a4 := Tryz.isAgg4,
  z4 := Tryz.sizeOf4,
  v4 := Tryz.zeroValue4,
  t5 := Tryz.underlying5,
  a5 := Tryz.isAgg5,
  z5 := Tryz.sizeOf5,
  v5 := Tryz.zeroValue5,
  t9 := Tryz.underlying9,
  a9 := Tryz.isAgg9,
  z9 := Tryz.sizeOf9,
  v9 := Tryz.zeroValue9,
  t22 := Tryz.underlying42,
  a22 := Tryz.isAgg42,
  z22 := Tryz.sizeOf42,
  v22 := Tryz.zeroValue42,
  t25 := Tryz.underlying121,
  a25 := Tryz.isAgg121,
  z25 := Tryz.sizeOf121,
  v25 := Tryz.zeroValue121,
  t39 := Tryz.underlying190,
  a39 := Tryz.isAgg190,
  z39 := Tryz.sizeOf190,
  v39 := Tryz.zeroValue190,
  t45 := Tryz.underlying256,
  a45 := Tryz.isAgg256,
  z45 := Tryz.sizeOf256,
  v45 := Tryz.zeroValue256,
  t46 := Tryz.underlying257,
  a46 := Tryz.isAgg257,
  z46 := Tryz.sizeOf257,
  v46 := Tryz.zeroValue257,
  t50 := Tryz.underlying151,
  a50 := Tryz.isAgg151,
  z50 := Tryz.sizeOf151,
  v50 := Tryz.zeroValue151,
  t53 := Tryz.underlying263,
  a53 := Tryz.isAgg263,
  z53 := Tryz.sizeOf263,
  v53 := Tryz.zeroValue263,
  t55 := Tryz.underlying30,
  a55 := Tryz.isAgg30,
  z55 := Tryz.sizeOf30,
  v55 := Tryz.zeroValue30,
  t66 := Tryz.underlying311,
  a66 := Tryz.isAgg311,
  z66 := Tryz.sizeOf311,
  v66 := Tryz.zeroValue311,
  t70 := Tryz.underlying315,
  a70 := Tryz.isAgg315,
  z70 := Tryz.sizeOf315,
  v70 := Tryz.zeroValue315,
  t76 := Tryz.underlying350,
  a76 := Tryz.isAgg350,
  z76 := Tryz.sizeOf350,
  v76 := Tryz.zeroValue350,
  t77 := Tryz.underlying351,
  a77 := Tryz.isAgg351,
  z77 := Tryz.sizeOf351,
  v77 := Tryz.zeroValue351 }
def cmpI64_ren : Go.Shelf.Ren := ⟨fun | 5 => 49 | 7 => 107 | n => n, fun | 22 => 2 | 3 => 3 | 4 => 4 | n => n, fun n => n⟩
theorem cmpI64 : SlLaysC2.n5 Tryz.prog cmpI64_ren := {
  mixed := by kernel_rfl,
  f5 := ⟨Tryz.f49.name, by decide, Tryz.func49.trans (congrArg some (by kernel_rfl))⟩,
  f7 := ⟨Tryz.f107.name, by decide, Tryz.func107.trans (congrArg some (by kernel_rfl))⟩,
  t3 := Tryz.underlying3,
  a3 := Tryz.isAgg3,
  z3 := Tryz.sizeOf3,
  v3 := Tryz.zeroValue3,
  t4 := Tryz.underlying4,
  a4 := Tryz.isAgg4,
  z4 := Tryz.sizeOf4,
  v4 := Tryz.zeroValue4,
  t22 := Tryz.underlying2,
  a22 := Tryz.isAgg2,
  z22 := Tryz.sizeOf2,
  v22 := Tryz.zeroValue2 }
theorem c_sortNone (p : Option Addr) (cap : Nat) (fv : Value) (w : World) : FC Tryz.prog 47 [.slice p 0 cap, fv] w (Val (.tuple #[]) w) :=
  Calls.mono (AnyF.slices_SortFunc_none sortIt p cap fv w) fun e w' h => ⟨_, h.1, rfl, h.2 ▸ Sub.refl _⟩
/-- Hold's comparison, as the library's sort wants it -/
theorem c_hold1 (x y : It) (W : World) : Calls Tryz.prog 48 #[.agg x.cells.toArray, .agg y.cells.toArray] W fun e w' => e = .returned (.int .i64 (Lib.compareInt x.k y.k)) ∧ ∃ q os', w' = Sort.grow (W.drewN q) os' := by
  have hcon := fun W' => AnyG.cmp_Compare_int cmpI64 x.k y.k W'
  change ∀ W', Calls Tryz.prog 49 _ _ _ at hcon
  generalize Lib.compareInt x.k y.k = r at hcon ⊢
  unfold It.cells
  go_enter Tryz.func48, Tryz.ntmps48
  go_wp2_with (go_at_call 49; refine (hcon _).mono ?_; rintro e w' ⟨rfl, rfl⟩)
  go_ret
  exact ⟨rfl, 0, _, by rw [Sort.alloc_eq_grow, Sort.alloc_eq_grow, Sort.grow_grow]; rfl⟩
theorem ltK (x y : It) : ltOf (fun x y : It => Lib.compareInt x.k y.k) x y = decide (x.k < y.k) := by
  unfold ltOf Lib.compareInt
  by_cases h1 : x.k < y.k
  · simp [h1]
  · by_cases h2 : y.k < x.k <;> simp [h1, h2]
theorem swoK : Sort.SWO (ltOf fun x y : It => Lib.compareInt x.k y.k) where
  irrefl x := by rw [ltK]; simp
  trans x y z h1 h2 := by rw [ltK] at *; simp at *; omega
  ntrans x y z h1 h2 := by rw [ltK] at *; simp at *; omega
instance inhIt : Inhabited It := ⟨⟨0, 0⟩⟩
theorem flatK_list (l : List It) : Sort.flatK It.cells 2 l.toArray = ((l.map It.cells).flatten).toArray := by
  have hl : ∀ r ∈ l.map It.cells, r.length = 2 := it_rows
  have hz : ((l.map It.cells).flatten).length = l.length * 2 := by rw [flat_len _ hl, List.length_map]
  apply Array.ext
  · rw [Sort.size_flatK]; simp [hz]
  · intro t h1 h2
    rw [Sort.size_flatK] at h1
    have h1' : t < l.length * 2 := by simpa using h1
    have g := Sort.get_flatK It.cells 2 l.toArray t h1
    have hi : t / 2 < l.length := by omega
    have hf := flat_get (l.map It.cells) hl (t / 2) (t % 2) (It.cells l[t / 2]) (by rw [List.getElem?_map, List.getElem?_eq_getElem hi]; rfl) (Nat.mod_lt _ (by decide))
    have et : t / 2 * 2 + t % 2 = t := by omega
    rw [et] at hf
    rw [getElem!_pos _ t (by rw [Sort.size_flatK]; exact h1)] at g
    rw [g]
    have e1 : l.toArray[t / 2]! = l[t / 2] := by rw [getElem!_pos _ _ (by simpa using hi)]; simp
    rw [e1, List.getElem_toArray]
    have h3 : ((l.map It.cells).flatten)[t]? = some ((l.map It.cells).flatten)[t] := List.getElem?_eq_getElem (by rw [hz]; exact h1')
    rw [h3] at hf
    have h4 : (It.cells l[t / 2])[t % 2]? = some (It.cells l[t / 2])[t % 2]! := by
      have : t % 2 < (It.cells l[t / 2]).length := Nat.mod_lt _ (by decide)
      rw [List.getElem?_eq_getElem this, getElem!_pos (It.cells l[t / 2]) (t % 2) this]
    rw [h4] at hf
    exact (Option.some.inj hf).symm
theorem holdsK_of {w : World} {b : Nat} {l : List It} {extra : List Value} {e : TypeId} (h : Has w b ((l.map It.cells).flatten ++ extra) e) : Sort.HoldsK It.cells 2 w b 0 l.toArray := by
  unfold Sort.HoldsK
  rw [flatK_list]
  intro j hj
  have hj' : j < ((l.map It.cells).flatten).length := by simpa using hj
  refine ⟨?_, h.free⟩
  rw [Nat.zero_add]
  refine h.cell ?_
  rw [List.getElem?_append_left hj', List.getElem?_eq_getElem hj', getElem!_pos _ j (by simpa using hj')]
  simp
theorem putCells_list (xs ys extra : List Value) (h : ys.length = xs.length) : Sort.putCells id 0 ys.toArray (xs ++ extra).toArray = (ys ++ extra).toArray := by
  apply Array.ext
  · simp [Sort.putCells, h]
  · intro t h1 h2
    simp only [Sort.putCells, Array.getElem_mapIdx, List.size_toArray, Nat.zero_add, Nat.sub_zero, Nat.zero_le, true_and, id]
    by_cases q : t < ys.length
    · rw [if_pos q, getElem!_pos _ _ (by simpa using q)]
      simp [List.getElem_append_left q]
    · rw [if_neg q]
      simp only [List.getElem_toArray]
      rw [List.getElem_append_right (by omega), List.getElem_append_right (by omega)]
      simp [h]
theorem sortW_has {w : World} {b n : Nat} {l l' : List It} {extra : List Value} {e : TypeId} {os : Array Obj} (hl : l'.length = l.length) (h : Has w b ((l.map It.cells).flatten ++ extra) e) :
    Has (sortWorldK It.cells 2 w b 0 n l'.toArray os) b ((l'.map It.cells).flatten ++ extra) e ∧ Agr (fun k => k = b) w (sortWorldK It.cells 2 w b 0 n l'.toArray os) := by
  have hlt := h.lt
  unfold sortWorldK Sort.putRowK
  rw [flatK_list]
  refine ⟨?_, rfl, rfl, rfl, ?_, fun k hk hn => ?_⟩
  · unfold Has at *
    rw [Sort.heap_grow_old _ _ (by simpa [Sort.putRow, Sort.mapBlock, Sort.ahead] using hlt)]
    simp only [Sort.putRow, Sort.mapBlock, Sort.ahead, Array.getElem?_modify, if_pos, h, Option.map_some, Sort.onCells]
    rw [putCells_list _ _ _ (by rw [flat_len _ it_rows, flat_len _ it_rows, List.length_map, List.length_map, hl])]
  · simp [Sort.grow, Sort.putRow, Sort.mapBlock, Sort.ahead]
  · rw [Sort.heap_grow_old _ _ (by simpa [Sort.putRow, Sort.mapBlock, Sort.ahead] using hk)]
    simp only [Sort.putRow, Sort.mapBlock, Sort.ahead, Array.getElem?_modify]
    rw [if_neg (fun e => hn e.symm)]
/-- in order, equals anyhow -/
def kSrt (l : List It) : Prop := l.Pairwise fun x y => ¬ y.k < x.k
theorem c_sortK (l : List It) (hl : l.length ≤ 100000) (a : Option Addr) (c base : Nat) (w : World) (o : Ows base w 51 2 (.slice a l.length c) (l.map It.cells)) :
    FC Tryz.prog 47 [.slice a l.length c, .func (.func 48) #[] #[]] w (fun v w' => v = .tuple #[] ∧ Agr (fun k => ob (.slice a l.length c) = some k) w w' ∧ ∃ l', l'.Perm l ∧ kSrt l' ∧ Ows base w' 51 2 (.slice a l.length c) (l'.map It.cells)) := by
  cases l with
  | nil => exact (c_sortNone a c _ w).mono fun v w' h => ⟨h.1, h.2.agr, [], .nil, List.Pairwise.nil, o.step (N := fun _ => False) h.2.agr (fun _ _ e => e)⟩
  | cons x0 l0 =>
    obtain ⟨l, hx⟩ : ∃ l, l = x0 :: l0 := ⟨_, rfl⟩
    rw [← hx] at hl o ⊢
    have hpos : 0 < (l.map It.cells).length := by rw [hx]; simp
    obtain ⟨b, cap, extra, hv, hb, hcl, hcm, hh, hxl⟩ := o.has hpos
    rw [List.length_map] at hv hcl
    simp only [Value.slice.injEq] at hv
    obtain ⟨rfl, _, rfl⟩ := hv
    have eg : ∀ args w, (callFunc 48 args).run Tryz.prog w = .ok (.enter 48 args) w := enters_of Tryz.func48 (by kernel_rfl) rfl
    have h := AnyQ.slices_SortFunc sortIt 2 Tryz.isAgg51 Tryz.sizeOf51 It.cells (fun _ => rfl) (fun x v hv => by simp [It.cells] at hv; rcases hv with rfl | rfl <;> rfl) (fun x y => Lib.compareInt x.k y.k) swoK 48 #[] b 0 c l.toArray w eg (fun m os dk hs x y => c_hold1 x y _) (holdsK_of hh) hh.lt (by simp; omega)
    change Calls Tryz.prog 47 _ _ _ at h
    rw [show l.toArray.size = l.length by simp] at h
    refine Calls.mono h ?_
    rintro e w' ⟨rfl, d', n, os, hp, hs, rfl⟩
    obtain ⟨p1, _, p3⟩ := hp
    have hp4 : d'.toList.Perm l := by
      have e1 : d'.extract 0 l.length = d' := by rw [show l.length = d'.size by rw [p1]; simp]; simp
      have e2 : l.toArray.extract 0 l.length = l.toArray := by simp
      rw [e1, e2] at p3
      simpa using p3
    have hdl : d'.toList.length = l.length := hp4.length_eq
    obtain ⟨q1, q2⟩ := sortW_has (w := w) (n := n) (os := os) hdl hh
    have ed : d'.toList.toArray = d' := by simp
    rw [ed] at q1 q2
    refine ⟨_, rfl, rfl, q2.mono fun k _ e => by rw [e]; rfl, d'.toList, hp4, ?_, ?_⟩
    · rw [kSrt, List.pairwise_iff_getElem]
      intro i j hi hj hij
      have hi' : i < d'.size := by simpa using hi
      have hj' : j < d'.size := by simpa using hj
      have g := hs i j (Nat.zero_le _) hij (by rw [← hdl]; exact hj)
      rw [ltK, getElem!_pos d' i hi', getElem!_pos d' j hj'] at g
      simpa using g
    · have := Ows.of_has (rows := d'.toList.map It.cells) (base := base) (cap := c) (sz := 2) q1 it_rows hb (by rw [List.length_map, hdl]; exact hcl) hcm (by
        rw [List.length_append, flat_len _ it_rows, List.length_map, hdl]
        rw [List.length_append, flat_len _ it_rows, List.length_map] at hxl
        exact hxl)
      rw [List.length_map, hdl] at this
      exact this
end Go.Proofs.YtbjmllnddanniaaGreat
set_option linter.unusedVariables false
set_option linter.unusedSimpArgs false
namespace Go.Proofs.YtbjmllnddanniaaGreat
open Go Go.XL
section
variable {P : Program} {n : Cx} {F : List (Nat × Value)} {w : World} {p : Post} {ops : Array Oper} {rest : List Oper} {d : Option Tmp} {t : TypeId} {pos : String} {af : Array Edge} {g : Option (Nat × Bool)}
theorem _root_.Go.XL.RL.appendZ0 {ty tn x y k e s by_ z kq kn} (ht : sliceOf P ty = some (e, s, by_)) (htn : P.underlying tn = some (.int kn)) (hz : zeroOf P e = some z) (hzs : z.cells.size = s) (hs' : Nat.blt 0 s = true) (hy : XL.ev F y = some (.slice none 0 0)) (hx : XL.ev F x = some (.int kq (k : Nat))) (hk : 0 < k)
    (hlen : k * by_ ≤ 140737488355328) (hlen' : k ≤ 140737488355328) (hg : gsat ops F g = some true) (hd : inB d n = true)
    (h : ∀ b' w' cap ex, b' = w.heap.size → k ≤ cap → cap ≤ maxLen → Has w' b' (List.replicate k z.cells.toList ++ List.replicate ex z.cells.toList).flatten e → cap = k + ex → Sub w w' → RL P n ops rest (upd F d (.slice (some ⟨b', 0, none⟩) k cap)) w' p) : RL P n ops (⟨d, .call ⟨.builtin .append, #[y, x], #[ty, tn]⟩, t, pos, af, g⟩ :: rest) F w p := by
  have hs2 : 0 < s := by simpa using hs'
  obtain ⟨h1, i, h2, h3, h4⟩ := sliceOf_spec ht
  obtain ⟨i', hi', hzz⟩ := zeroOf_spec hz
  rw [h2] at hi'; cases hi'
  have hold : (Builtin.firstCells i.size 0 (.slice none 0 0)).run P w.drew = .ok ([] : List Value).toArray w.drew := by
    rw [h3]
    exact firstCells_sl (l := []) hs2 (Sl.nil _ _ _) (fun r hr => by cases hr) 0 (Nat.zero_le _)
  have hge := grownCap_ge w (0 + k) 0 e
  have hcm := grownCap_le_maxLen w (0 + k) 0 e (Nat.le_trans (show 0 + k ≤ 140737488355328 by omega) (by decide))
  have hr := Go.Lib.run_append_grow_zeros (P := P) w ty tn t e i z kq kn h1 htn h2 hzz none 0 0 [] hold k hk (by omega) (by omega) (by omega) (by rw [h4]; omega) (growslice_fits (by omega) (by rw [h4, Nat.zero_add]; exact hlen))
  have hzc : ∀ m, Builtin.zeroCells z.cells m = (List.replicate m z.cells.toList).flatten.toArray := fun m => by
    unfold Builtin.zeroCells
    exact zeros_list z.cells (by omega) m
  rw [hzc, hzc, Nat.zero_add] at hr
  rw [Nat.zero_add] at hge hcm
  refine RL.on hg hd (fun ρ hρ => ?_) (h w.heap.size (w.drew.alloc (.cells (([] : List Value).toArray ++ (List.replicate k z.cells.toList).flatten.toArray ++ (List.replicate (grownCap w k 0 e - k) z.cells.toList).flatten.toArray) e)) (grownCap w k 0 e) (grownCap w k 0 e - k) rfl hge hcm ?_ (by omega) ⟨rfl, rfl, rfl, by simp, fun k hk => heap_alloc_old' w.drew _ hk⟩)
  · simp only [execOp, resolve, hρ y _ hy, hρ x _ hx, bind, Sem.bind, pure, invoke, builtin, List.map_toArray, List.map_cons, List.map_nil]
    have := run_bind (P := P) (Builtin.append_ #[ty, tn] t #[.slice none 0 0, .int kq (k : Nat)]) (fun v => (Sem.pure (Next.value v) : Sem Next)) w
    rw [hr] at this
    exact this
  · have := heap_alloc_new w.drew (.cells (([] : List Value).toArray ++ (List.replicate k z.cells.toList).flatten.toArray ++ (List.replicate (grownCap w k 0 e - k) z.cells.toList).flatten.toArray) e)
    unfold Has
    simp only [List.flatten_append]
    simpa using this
end
theorem zz_len (k j : Nat) : (List.replicate k [Value.int .i64 0, .int .i64 0] ++ List.replicate j [Value.int .i64 0, .int .i64 0]).flatten.length = (k + j) * 2 := by
  rw [flat_len (sz := 2) _ (fun r hr => (List.mem_append.1 hr).elim (fun h => by rw [(List.mem_replicate.1 h).2]; rfl) (fun h => by rw [(List.mem_replicate.1 h).2]; rfl)), List.length_append, List.length_replicate, List.length_replicate]
theorem c_grow0 (k : Nat) (hk : k ≤ 10000) (w : World) : FC Tryz.prog 108 [.slice none 0 0, .int .i64 (k : Int)] w (fun v w' => Sub w w' ∧ ∃ a c, v = .slice a 0 c ∧ Ows w.heap.size w' 51 2 (.slice a 0 c) []) := by
  refine FC.intro Tryz.func108 rfl Tryz.ntmps108 rfl ?_
  have S := Sub.refl w
  refine RC.seq ?_
  refine RC.region rfl ?_
  refine RL.ev (.assign rfl) rfl rfl ?_
  refine RL.nil (RC.back ?_)
  refine RC.seq ?_
  refine RC.seq ?_
  refine RC.region rfl ?_
  refine RL.ev (.move rfl) rfl rfl ?_
  refine RL.ev (.bin rfl rfl rfl) rfl rfl ?_
  refine RL.nil (RC.back ?_)
  refine RC.cond_dec rfl (fun h1 => ?_) (fun h1 => ?_)
  ·
    exact absurd h1 (by omega)
  ·
    refine RC.skip (RC.back ?_)
    refine RC.seq ?_
    refine RC.seq ?_
    refine RC.region rfl ?_
    refine RL.ev (.move rfl) rfl rfl ?_
    refine RL.ev (.move rfl) rfl rfl ?_
    refine RL.ev (.cap sl42 rfl) rfl rfl ?_
    refine RL.ev (.move rfl) rfl rfl ?_
    refine RL.ev (.len sl42 rfl) rfl rfl ?_
    refine RL.ev (.as (.bin rfl rfl rfl) (wi64 (y := (0 : Int)) (by rfl) (by omega))) rfl rfl ?_
    refine RL.ev (.as (.bin rfl rfl rfl) (wi64 (y := (k : Int)) (by omega) (by omega))) rfl rfl ?_
    refine RL.ev (.assign rfl) rfl rfl ?_
    refine RL.nil (RC.back ?_)
    refine RC.seq ?_
    refine RC.region rfl ?_
    refine RL.ev (.move rfl) rfl rfl ?_
    refine RL.ev (.bin rfl rfl rfl) rfl rfl ?_
    refine RL.nil (RC.back ?_)
    refine RC.cond_dec rfl (fun h2 => ?_) (fun h2 => ?_)
    ·
      have hk0 : 0 < k := (by omega)
      refine RC.region rfl ?_
      refine RL.ev (.move rfl) rfl rfl ?_
      refine RL.ev (.move rfl) rfl rfl ?_
      refine RL.ev (.cap sl42 rfl) rfl rfl ?_
      refine RL.ev (.sliceHi sl42 rfl rfl (by omega)) rfl rfl ?_
      refine RL.ev (.move rfl) rfl rfl ?_
      refine RL.appendZ0 (k := k) sl42 Tryz.underlying3 ze51 rfl rfl rfl rfl hk0 (by omega) (by omega) rfl rfl (fun b_9 w3 cap9 ex9 e_9 hc9 hm9 hb_9 hcx9 s9 => ?_)
      have ge_9 := S.le e_9
      have S := S.trans s9
      refine RL.ev (.move rfl) rfl rfl ?_
      refine RL.ev (.len sl42 rfl) rfl rfl ?_
      refine RL.ev (.sliceHi sl42 rfl rfl (by omega)) rfl rfl ?_
      refine RL.ev (.assign rfl) rfl rfl ?_
      refine RL.nil (RC.back ?_)
      refine RC.seq ?_
      refine RC.region rfl ?_
      refine RL.ev (.move rfl) rfl rfl ?_
      refine RL.ev (.assign rfl) rfl rfl ?_
      refine RL.nil (RC.back ?_)
      refine RC.done (rs := [.tmp 4]) (vs := [_]) rfl rfl ⟨rfl, trivial⟩ ?_
      -- end 1
      exact ⟨S, _, _, rfl, Ows.of_has (rows := []) (extra := (List.replicate k [Value.int .i64 0, .int .i64 0] ++ List.replicate ex9 [Value.int .i64 0, .int .i64 0]).flatten) hb_9 (fun r hr => by cases hr) (by omega) (Nat.zero_le _) hm9 (by rw [List.flatten_nil, List.nil_append, zz_len, hcx9])⟩
    ·
      refine RC.skip (RC.back ?_)
      refine RC.seq ?_
      refine RC.region rfl ?_
      refine RL.ev (.move rfl) rfl rfl ?_
      refine RL.ev (.assign rfl) rfl rfl ?_
      refine RL.nil (RC.back ?_)
      refine RC.done (rs := [.tmp 4]) (vs := [_]) rfl rfl ⟨rfl, trivial⟩ ?_
      -- end 2
      exact ⟨S, none, 0, rfl, Ows.nil _ _ _ _⟩
/-- a row that is handed on among others -/
structure Tri where
  l : List It
  a : Option Addr
  c : Nat
def Tri.v (t : Tri) : Value := .slice t.a t.l.length t.c
def catT (ts : List Tri) : List It := (ts.map (·.l)).flatten
theorem catT_succ {ts : List Tri} {i : Nat} {t : Tri} (h : ts[i]? = some t) : catT (ts.take (i + 1)) = catT (ts.take i) ++ t.l := by
  unfold catT
  rw [List.take_add_one, h]
  simp
theorem catT_len (ts : List Tri) (hs : ∀ t ∈ ts, t.l.length ≤ 1000) : (catT ts).length ≤ ts.length * 1000 := by
  induction ts with
  | nil => simp [catT]
  | cons t ts ih =>
    have h1 := hs t (by simp)
    have h2 := ih (fun t ht => hs t (by simp [ht]))
    unfold catT at h2 ⊢
    simp only [List.map_cons, List.flatten_cons, List.length_append, List.length_cons]
    omega
theorem c_concat (ts : List Tri) (hn : ts.length ≤ 9) (hs : ∀ t ∈ ts, t.l.length ≤ 1000) (pa : Option Addr) (pc : Nat) (w : World) (hP : Sl w pa 1 (ts.map fun t => [t.v])) (hT : ∀ t ∈ ts, Sl w t.a 2 (t.l.map It.cells)) :
    FC Tryz.prog 50 [.slice pa ts.length pc] w (fun v w' => Sub w w' ∧ ∃ a c, v = .slice a (catT ts).length c ∧ Sl w' a 2 ((catT ts).map It.cells)) := by
  have hlen : ∀ i, (catT (ts.take i)).length ≤ 9000 := fun i => Nat.le_trans (catT_len _ (fun t ht => hs t (List.mem_of_mem_take ht))) (by rw [List.length_take]; omega)
  refine FC.intro Tryz.func50 rfl Tryz.ntmps50 rfl ?_
  have S := Sub.refl w
  refine RC.seq ?_
  refine RC.region rfl ?_
  refine RL.ev (.assign rfl) rfl rfl ?_
  refine RL.nil (RC.back ?_)
  refine RC.seq ?_
  refine RC.region rfl ?_
  refine RL.ev (.assign rfl) rfl rfl ?_
  refine RL.nil (RC.back ?_)
  refine RC.seq ?_
  refine RC.seq ?_
  refine RC.region rfl ?_
  refine RL.ev (.move rfl) rfl rfl ?_
  refine RL.ev (.len sl191 rfl) rfl rfl ?_
  refine RL.ev (.move rfl) rfl rfl ?_
  refine RL.nil (RC.back ?_)
  refine RC.block ?_
  refine RC.loop (α := Nat) (fun i => [(0, .slice pa ts.length pc), (3, .int .i64 ((catT (ts.take i)).length : Int)), (9, .slice pa ts.length pc), (10, .int .i64 (ts.length : Int)), (11, .int .i64 (i : Int))]) (fun i w1 => i ≤ ts.length ∧ Sub w w1) (fun i => ts.length - i) 0 (keep_of (by repeat (first | exact trivial | refine And.intro rfl ?_))) (⟨Nat.zero_le _, S⟩) (fun i w1 hJ => ?_)
  obtain ⟨hi, S⟩ := hJ; have hli := hlen i; have hli1 := hlen (i + 1)
  refine RC.seq ?_
  refine RC.region rfl ?_
  refine RL.ev (.bin rfl rfl rfl) rfl rfl ?_
  refine RL.nil (RC.back ?_)
  refine RC.seq ?_
  refine RC.cond_dec rfl (fun h2 => ?_) (fun h2 => ?_)
  ·
    obtain ⟨t, ht⟩ := getSome (l := ts) (i := i) (by omega)
    refine RC.skip (RC.back ?_)
    refine RC.seq ?_
    refine RC.block ?_
    refine RC.seq ?_
    refine RC.region rfl ?_
    refine RL.ev (.indexS sl191 rfl rfl (by omega) (hP.is (i := 0) (by simp only [List.length_map, List.length_cons, List.length_nil]; omega))) rfl rfl ?_
    refine RL.ev (.as (v' := .slice t.a t.l.length t.c) (.load1 sh42 rfl ((hP.sub S).one (enc := Tri.v) (i := i) ht)) (by rfl)) rfl rfl ?_
    refine RL.ev (.assign rfl) rfl rfl ?_
    refine RL.nil (RC.back ?_)
    refine RC.seq ?_
    refine RC.region rfl ?_
    refine RL.ev (.move rfl) rfl rfl ?_
    refine RL.ev (.move rfl) rfl rfl ?_
    refine RL.ev (.len sl42 rfl) rfl rfl ?_
    refine RL.ev (.as (.bin rfl rfl rfl) (wi64 (y := ((catT (ts.take (i + 1))).length : Int)) (by rw [catT_succ ht, List.length_append]; omega) (by omega))) rfl rfl ?_
    refine RL.ev (.assign rfl) rfl rfl ?_
    refine RL.nil (RC.back ?_)
    refine RC.seq ?_
    refine RC.region rfl ?_
    refine RL.ev (.move rfl) rfl rfl ?_
    refine RL.ev (.bin rfl rfl rfl) rfl rfl ?_
    refine RL.nil (RC.back ?_)
    refine RC.cond_dec rfl (fun h3 => ?_) (fun h3 => ?_)
    ·
      exact absurd h3 (by omega)
    ·
      refine RC.skip (RC.back ?_)
      refine RC.region rfl ?_
      refine RL.ev (.as (.bin rfl rfl rfl) (wi64 (y := ((i + 1 : Nat) : Int)) (by omega) (by omega))) rfl rfl ?_
      refine RL.ev (.move rfl) rfl rfl ?_
      exact RL.nil (fun a ka => ⟨i + 1, ⟨by omega, S⟩, by omega, ka.keep (keep_of (by repeat (first | exact trivial | refine And.intro rfl ?_)))⟩)
  ·
    obtain rfl : i = ts.length := (by omega)
    rw [List.take_length] at hli
    refine RC.exit rfl (RC.back ?_)
    refine RC.seq ?_
    refine RC.region rfl ?_
    refine RL.ev (.as (v' := .int .i64 ((catT ts).length : Int)) (.move rfl) (by rw [List.take_length])) rfl rfl ?_
    refine RL.call rfl ok108 (c_grow0 (catT ts).length (by omega) w1) rfl rfl ?_
    rintro _ w4 ⟨s5, a0, c0, rfl, o⟩
    have o := o.low S.size
    have S := S.trans s5
    refine RL.ev (.assign rfl) rfl rfl ?_
    refine RL.nil (RC.back ?_)
    refine RC.seq ?_
    refine RC.seq ?_
    refine RC.region rfl ?_
    refine RL.ev (.move rfl) rfl rfl ?_
    refine RL.ev (.len sl191 rfl) rfl rfl ?_
    refine RL.ev (.move rfl) rfl rfl ?_
    refine RL.nil (RC.back ?_)
    refine RC.block ?_
    refine RC.loop (α := Nat × Option Addr × Nat) (fun x => [(6, .slice x.2.1 ((catT (ts.take x.1)).map It.cells).length x.2.2), (25, .slice pa ts.length pc), (26, .int .i64 (ts.length : Int)), (27, .int .i64 (x.1 : Int))]) (fun x w6 => x.1 ≤ ts.length ∧ Ows w.heap.size w6 51 2 (.slice x.2.1 ((catT (ts.take x.1)).map It.cells).length x.2.2) ((catT (ts.take x.1)).map It.cells) ∧ Sub w w6) (fun x => ts.length - x.1) (0, a0, c0) (keep_of (by repeat (first | exact trivial | refine And.intro rfl ?_))) (⟨Nat.zero_le _, o, S⟩) (fun x w6 hJ => ?_)
    obtain ⟨i, a, c⟩ := x; obtain ⟨hi, o, S⟩ := hJ; simp only [] at hi o; have hli := hlen i; have hli1 := hlen (i + 1); have hlm : ((catT (ts.take i)).map It.cells).length ≤ 9000 := (by rw [List.length_map]; exact hli)
    refine RC.seq ?_
    refine RC.region rfl ?_
    refine RL.ev (.bin rfl rfl rfl) rfl rfl ?_
    refine RL.nil (RC.back ?_)
    refine RC.seq ?_
    refine RC.cond_dec rfl (fun h7 => ?_) (fun h7 => ?_)
    ·
      obtain ⟨t, ht⟩ := getSome (l := ts) (i := i) (by omega)
      have htl := hs t (List.mem_of_getElem? ht)
      have htm : (t.l.map It.cells).length ≤ 1000 := (by rw [List.length_map]; exact htl)
      refine RC.skip (RC.back ?_)
      refine RC.seq ?_
      refine RC.block ?_
      refine RC.seq ?_
      refine RC.region rfl ?_
      refine RL.ev (.indexS sl191 rfl rfl (by omega) (hP.is (i := 0) (by simp only [List.length_map, List.length_cons, List.length_nil]; omega))) rfl rfl ?_
      refine RL.ev (.as (v' := .slice t.a t.l.length t.c) (.load1 sh42 rfl ((hP.sub S).one (enc := Tri.v) (i := i) ht)) (by rfl)) rfl rfl ?_
      refine RL.ev (.assign rfl) rfl rfl ?_
      refine RL.nil (RC.back ?_)
      refine RC.region rfl ?_
      refine RL.ev (.move rfl) rfl rfl ?_
      refine RL.ev (.move rfl) rfl rfl ?_
      have sz_33 := S.size
      refine RL.append2 (base := w.heap.size) (rows := (catT (ts.take i)).map It.cells) (news := t.l.map It.cells) sl42 ze51 rfl rfl rfl rfl (.inl o) ((hT t (List.mem_of_getElem? ht)).sub S) (by (try simp only [List.length_map]); first | done | rfl) (by intro r hr; obtain ⟨x, _, rfl⟩ := List.mem_map.1 hr; rfl) (by rw [List.all_eq_true]; intro r hr; obtain ⟨x, _, rfl⟩ := List.mem_map.1 hr; rfl) (by (try simp only [List.length_map, List.length_nil, List.length_append, List.length_cons]); omega) (by (try simp only [List.length_map, List.length_nil, List.length_append, List.length_cons]); omega) (by omega) rfl rfl (fun v_33 w_33 hc_33 ho_33 ag_33 ob_33 => ?_)
      have o33 := ho_33 (.inr o)
      have S := S.agrN ag_33 (fun k e => Nat.le_trans (by omega) e.2)
      obtain ⟨a_33, c_33, rfl, k_33⟩ := o33.form
      rw [← List.map_append, ← catT_succ ht] at o33
      rw [← List.map_append, ← catT_succ ht]
      refine RL.ev (.assign rfl) rfl rfl ?_
      refine RL.nil (RC.back ?_)
      refine RC.region rfl ?_
      refine RL.ev (.as (.bin rfl rfl rfl) (wi64 (y := ((i + 1 : Nat) : Int)) (by omega) (by omega))) rfl rfl ?_
      refine RL.ev (.move rfl) rfl rfl ?_
      exact RL.nil (fun a ka => ⟨(i + 1, a_33, c_33), ⟨by omega, o33, S⟩, by omega, ka.keep (keep_of (by repeat (first | exact trivial | refine And.intro rfl ?_)))⟩)
    ·
      obtain rfl : i = ts.length := (by omega)
      rw [List.take_length] at o
      refine RC.exit rfl (RC.back ?_)
      refine RC.seq ?_
      refine RC.region rfl ?_
      refine RL.ev (.move rfl) rfl rfl ?_
      refine RL.ev (.assign rfl) rfl rfl ?_
      refine RL.nil (RC.back ?_)
      refine RC.done (rs := [.tmp 2]) (vs := [_]) rfl rfl ⟨rfl, trivial⟩ ?_
      -- end 1
      rw [List.take_length]
      exact ⟨S, a, c, by rw [List.length_map]; rfl, o.sl.1⟩
end Go.Proofs.YtbjmllnddanniaaGreat
set_option linter.unusedVariables false
set_option linter.unusedSimpArgs false
namespace Go.Proofs.YtbjmllnddanniaaGreat
open Go Go.XL
theorem c_horder (x y : It) (w : World) : FC Tryz.prog 103 [x.val, y.val] w (Val (.int .i64 (cmpIt x y)) w) := by
  refine FC.intro Tryz.func103 rfl Tryz.ntmps103 rfl ?_
  have S := Sub.refl w
  refine RC.seq ?_
  refine RC.region rfl ?_
  refine RL.box rfl rfl rfl (fun b_2 w_2 e_2 z_2 hb_2 s_2 => ?_)
  have ge_2 := S.le e_2
  have S := S.trans s_2
  have hb_2 : Has w_2 b_2 ([.int .i64 x.k, .int .i64 x.v]) _ := hb_2
  refine RL.box rfl rfl rfl (fun b_3 w_3 e_3 z_3 hb_3 s_3 => ?_)
  have ge_3 := S.le e_3
  have n_2__3 := hb_2.ne e_3
  have S := S.trans s_3
  have hb_2 := hb_2.sub s_3
  have hb_3 : Has w_3 b_3 ([.int .i64 y.k, .int .i64 y.v]) _ := hb_3
  refine RL.ev (.assign rfl) rfl rfl ?_
  refine RL.nil (RC.back ?_)
  refine RC.seq ?_
  refine RC.drawD (fun k => False) [] w_3.heap.size 13 rfl rfl mxo (fun w1 s2 => ?_)
  have hNN : ∀ k, ((False) ∨ w_3.heap.size ≤ k) → w.heap.size ≤ k := fun k e => e.elim (fun e => e.elim) (fun e => Nat.le_trans S.size e)
  have ent_S := S.size
  have hN0 : ∀ k, w_3.heap.size ≤ k → w.heap.size ≤ k := fun k e => Nat.le_trans S.size e
  have ltD_b_2 := hb_2.lt
  have ltD_b_3 := hb_3.lt
  have szD := Nat.le_refl w_3.heap.size
  have S := S.trans s2
  have hb_2 := hb_2.sub s2
  have hb_3 := hb_3.sub s2
  have szD := Nat.le_trans szD s2.size
  refine RD.take 0 rfl (by kernel_rfl) (by kernel_rfl) (by kernel_rfl) (fun w' s' => .field0 fo51_0 rfl) rfl rfl ?_
  refine RD.take 1 rfl (by kernel_rfl) (by kernel_rfl) (by kernel_rfl) (fun w' s' => .load1 sh2 rfl ((hb_2.step s' (fun e => e.elim (fun e => e.elim) (fun e => Nat.not_le.2 ltD_b_2 e))).cell rfl)) rfl rfl ?_
  refine RD.take 2 rfl (by kernel_rfl) (by kernel_rfl) (by kernel_rfl) (fun w' s' => .field0 fo51_0 rfl) rfl rfl ?_
  refine RD.take 3 rfl (by kernel_rfl) (by kernel_rfl) (by kernel_rfl) (fun w' s' => .load1 sh2 rfl ((hb_3.step s' (fun e => e.elim (fun e => e.elim) (fun e => Nat.not_le.2 ltD_b_3 e))).cell rfl)) rfl rfl ?_
  refine RD.take 5 rfl (by kernel_rfl) (by kernel_rfl) (by kernel_rfl) (fun w' s' => .field0 fo51_1 rfl) rfl rfl ?_
  refine RD.take 6 rfl (by kernel_rfl) (by kernel_rfl) (by kernel_rfl) (fun w' s' => .load1 sh2 rfl ((hb_2.step s' (fun e => e.elim (fun e => e.elim) (fun e => Nat.not_le.2 ltD_b_2 e))).cell rfl)) rfl rfl ?_
  refine RD.take 7 rfl (by kernel_rfl) (by kernel_rfl) (by kernel_rfl) (fun w' s' => .field0 fo51_1 rfl) rfl rfl ?_
  refine RD.take 8 rfl (by kernel_rfl) (by kernel_rfl) (by kernel_rfl) (fun w' s' => .load1 sh2 rfl ((hb_3.step s' (fun e => e.elim (fun e => e.elim) (fun e => Nat.not_le.2 ltD_b_3 e))).cell rfl)) rfl rfl ?_
  refine RD.all [4] (by kernel_rfl) rfl (RDs.cons rfl ?_ (RDs.nil))
  refine RL.call rfl ok49 (c_compare x.k y.k w1) rfl rfl ?_
  rintro _ w3 ⟨rfl, s4⟩
  have S := S.trans s4
  have hb_2 := hb_2.sub s4
  have hb_3 := hb_3.sub s4
  have szD := Nat.le_trans szD s4.size
  refine RD.back s4.agr ?_
  refine RD.all [9] (by kernel_rfl) rfl (RDs.cons rfl ?_ (RDs.nil))
  refine RL.call rfl ok49 (c_compare x.v y.v w3) rfl rfl ?_
  rintro _ w5 ⟨rfl, s6⟩
  have S := S.trans s6
  have hb_2 := hb_2.sub s6
  have hb_3 := hb_3.sub s6
  have szD := Nat.le_trans szD s6.size
  refine RD.back s6.agr ?_
  refine RD.all [10] (by kernel_rfl) rfl (RDs.cons rfl ?_ (RDs.nil))
  refine RL.buildSliceN (vs := [_, _]) sl24 _ ze3 rfl ⟨rfl, rfl, trivial⟩ rfl rfl rfl rfl rfl rfl (fun b_15 w_15 e_15 z_15 hb_15 s_15 => ?_)
  have fr_b_15 : w_3.heap.size ≤ b_15 := by rw [e_15]; exact szD
  have ge_15 := S.le e_15
  have n_2__15 := hb_2.ne e_15
  have n_3__15 := hb_3.ne e_15
  have S := S.trans s_15
  have hb_2 := hb_2.sub s_15
  have hb_3 := hb_3.sub s_15
  have szD := Nat.le_trans szD s_15.size
  refine RD.back s_15.agr ?_
  refine RD.all [11] (by kernel_rfl) rfl (RDs.cons rfl ?_ (RDs.nil))
  refine RL.call rfl ok171 (c_or (cmpI x.k y.k) (cmpI x.v y.v) _ _ _ rfl w_15 (Has.sl1 (enc := i6) (l := [cmpI x.k y.k, cmpI x.v y.v]) hb_15)) rfl rfl ?_
  rintro _ w7 ⟨rfl, s8⟩
  have S := S.trans s8
  have hb_2 := hb_2.sub s8
  have hb_3 := hb_3.sub s8
  have szD := Nat.le_trans szD s8.size
  have hb_15 := hb_15.sub s8
  refine RD.back s8.agr ?_
  refine RD.take 12 rfl (by kernel_rfl) (by kernel_rfl) (by kernel_rfl) (fun w' s' => .assign rfl) rfl rfl ?_
  refine RD.done (by kernel_rfl) (RC.back ?_)
  refine RC.done (rs := [.tmp 4]) (vs := [_]) rfl rfl ⟨rfl, trivial⟩ ?_
  -- end 1
  exact ⟨rfl, S⟩
theorem cmpIt_lt {x y : It} : cmpIt x y < 0 ↔ lessP x y := by
  rcases cmpIt_cases x y with ⟨h, e⟩ | ⟨h, e⟩ | ⟨h, e⟩
  · rw [e]; exact ⟨fun _ => h, fun _ => by decide⟩
  · rw [e]; exact ⟨fun h2 => absurd h2 (by decide), fun h2 => by unfold lessP at *; omega⟩
  · rw [e]; exact ⟨fun h2 => absurd h2 (by decide), fun h2 => by subst h; unfold lessP at *; omega⟩
theorem c_hitem (x : Node) (w : World) : FC Tryz.prog 102 [x.val] w (Val (itN x).val w) := by
  refine FC.intro Tryz.func102 rfl Tryz.ntmps102 rfl ?_
  have S := Sub.refl w
  refine RC.seq ?_
  refine RC.region rfl ?_
  refine RL.box rfl rfl rfl (fun b_1 w_1 e_1 z_1 hb_1 s_1 => ?_)
  have ge_1 := S.le e_1
  have S := S.trans s_1
  have hb_1 : Has w_1 b_1 (x.cells) _ := hb_1
  refine RL.alloc ze51 rfl rfl (fun b_2 w_2 e_2 z_2 hb_2 s_2 => ?_)
  have ge_2 := S.le e_2
  have n_1__2 := hb_1.ne e_2
  have S := S.trans s_2
  have hb_1 := hb_1.sub s_2
  refine RL.nil (RC.back ?_)
  refine RC.seq ?_
  refine RC.region rfl ?_
  refine RL.ev (.field0 fo140_2 rfl) rfl rfl ?_
  refine RL.ev (.load1 sh2 rfl (hb_1.cell rfl)) rfl rfl ?_
  refine RL.ev (.field0 fo140_3 rfl) rfl rfl ?_
  refine RL.ev (.load1 sh2 rfl (hb_1.cell rfl)) rfl rfl ?_
  refine RL.ev (.buildS ze51 pl51 rfl rfl) rfl rfl ?_
  refine RL.store sh51 rfl rfl rfl hb_2 (by exact Nat.le_of_ble_eq_true rfl) (by rfl) rfl (fun w1 z1 hb_2 a1 => ?_)
  have S := S.upd a1 ge_2
  have hb_1 := hb_1.upd a1 n_1__2
  have hb_2 : Has w1 b_2 ((itN x).cells) _ := hb_2.now (by kernel_rfl)
  refine RL.nil (RC.back ?_)
  refine RC.done (rs := [.cell 2 51]) (vs := [_]) rfl rfl ⟨⟨_, rfl, .inr ⟨(itN x).cells, sh51, hb_2.row, rfl⟩⟩, trivial⟩ ?_
  -- end 1
  exact ⟨rfl, S⟩
theorem c_hpget (A : Ar) (na fa : Option Addr) (nc fc : Nat) (bad : Int) (bf : Nat) (r : Int) (hr : U64 r) (w : World) (hbf : Has w bf (wvC na fa nc fc A bad) 244) (hA : ArR w na fa A) :
    FC Tryz.prog 149 [.pointer (some ⟨bf, 0, none⟩), .int .u64 r] w (Val (getN A r).val w) := by
  obtain ⟨e, hgv⟩ := getN_v A r
  refine FC.intro Tryz.func149 rfl Tryz.ntmps149 rfl ?_
  have S := Sub.refl w
  refine RC.seq ?_
  refine RC.region rfl ?_
  refine RL.alloc ze140 rfl rfl (fun b_4 w_4 e_4 z_4 hb_4 s_4 => ?_)
  have ge_4 := S.le e_4
  have nf__4 := hbf.ne e_4
  have S := S.trans s_4
  have hbf := hbf.sub s_4
  refine RL.nil (RC.back ?_)
  refine RC.seq ?_
  refine RC.region rfl ?_
  refine RL.ev (.move rfl) rfl rfl ?_
  refine RL.ev (.nilCheck rfl) rfl rfl ?_
  refine RL.ev (.field0 fo244_0 rfl) rfl rfl ?_
  refine RL.ev (.loadR (wvA na fa nc fc A) sh26 rfl (row_pref (xs := wvA na fa nc fc A) (ys := [.int .i64 bad]) hbf) rfl) rfl rfl ?_
  refine RL.ev (.move rfl) rfl rfl ?_
  refine RL.call rfl ok125 (c_aGet A na fa nc fc r hr w_4 (hA.sub S)) rfl rfl ?_
  rintro _ w1 ⟨rfl, s2⟩
  have S := S.trans s2
  have hbf := hbf.sub s2
  have hb_4 := hb_4.sub s2
  refine RL.ev (.as (v' := .tuple #[(getN A r).val, .int .i64 e]) (.move rfl) (by rw [hgv])) rfl rfl ?_
  refine RL.ev (.extract rfl rfl) rfl rfl ?_
  refine RL.ev (.extract rfl rfl) rfl rfl ?_
  refine RL.alloc ze140 rfl rfl (fun b_5 w_5 e_5 z_5 hb_5 s_5 => ?_)
  have ge_5 := S.le e_5
  have nf__5 := hbf.ne e_5
  have n_4__5 := hb_4.ne e_5
  have S := S.trans s_5
  have hbf := hbf.sub s_5
  have hb_4 := hb_4.sub s_5
  refine RL.store sh140 rfl rfl rfl hb_5 (by exact Nat.le_of_ble_eq_true rfl) (by rfl) rfl (fun w3 z3 hb_5 a3 => ?_)
  have S := S.upd a3 ge_5
  have hbf := hbf.upd a3 nf__5
  have hb_4 := hb_4.upd a3 n_4__5
  have hb_5 : Has w3 b_5 ((getN A r).cells) _ := hb_5.now (by kernel_rfl)
  refine RL.ev (.assign rfl) rfl rfl ?_
  refine RL.nil (RC.back ?_)
  refine RC.seq ?_
  refine RC.region rfl ?_
  refine RL.ev (.loadR ((getN A r).cells) sh140 rfl hb_5.row rfl) rfl rfl ?_
  refine RL.store sh140 rfl rfl rfl hb_4 (by exact Nat.le_of_ble_eq_true rfl) (by rfl) rfl (fun w4 z4 hb_4 a4 => ?_)
  have S := S.upd a4 ge_4
  have hbf := hbf.upd a4 nf__4
  have hb_5 := hb_5.upd a4 n_4__5.symm
  have hb_4 : Has w4 b_4 ((getN A r).cells) _ := hb_4.now (by kernel_rfl)
  refine RL.nil (RC.back ?_)
  refine RC.done (rs := [.cell 4 140]) (vs := [_]) rfl rfl ⟨⟨_, rfl, .inr ⟨(getN A r).cells, sh140, hb_4.row, rfl⟩⟩, trivial⟩ ?_
  -- end 1
  exact ⟨rfl, S⟩
def hB1 (y : Node) (a b : Int) : Node := ⟨y.kind, y.gen, y.n, y.v, y.s, a, b, 0, 0, 0, 0, 0, 0, 0, 0, 0⟩
theorem hB1_iff {y : Node} (h : y.kind = 6) : y = hB1 y y.k0 y.k1 ↔ hBare y = y := by
  unfold hB1 hBare hNode
  rw [h]
  exact ⟨fun e => e.symm, fun e => e.symm⟩
set_option maxHeartbeats 4000000 in
theorem c_pmay (A : Ar) (na fa : Option Addr) (nc fc : Nat) (bad : Int) (bf bs : Nat) (hfs : bf ≠ bs) (M : Nat → Prop) (hMs : ∀ k, M k → k ≠ bs) (hmost : A.nodes.length ≤ 512) : ∀ (k : Nat) (r : Int) (b : It) (out : List Int) (left : Int) (w : World), U64 r → 0 ≤ left → left < k → left ≤ 200 → Pl A out → Has w bf (wvC na fa nc fc A bad) 244 → Has w bs ((flagsO A.nodes.length out).map Value.bool) 4 → Ft M (fun u => ArR u na fa A) w →
    FC Tryz.prog 232 [.pointer (some ⟨bf, 0, none⟩), .int .u64 r, b.val, .slice (some ⟨bs, 0, none⟩) A.nodes.length A.nodes.length, .int .i64 left] w (fun v w' => v = .int .i64 (hmF A k r b out 0 left).1 ∧ Has w' bs ((flagsO A.nodes.length (hmF A k r b out 0 left).2).map Value.bool) 4 ∧ Agr (· = bs) w w') := by
  intro k
  induction k using Nat.strongRecOn with
  | _ k ih =>
  intro r b out left w hr hl0 hlk hl hp hbf hs hA
  have nfs := hfs
  refine FC.intro Tryz.func232 rfl Tryz.ntmps232 rfl ?_
  have G : Agr (· = bs) w w := Agr.refl _ _
  refine RC.seq ?_
  refine RC.region rfl ?_
  refine RL.box rfl rfl rfl (fun b_7 w_7 e_7 z_7 hb_7 s_7 => ?_)
  have nf__7 := hbf.ne e_7
  have ns__7 := hs.ne e_7
  have d_hA_b_7 := hA.neNew e_7
  have geG_7 := agLe G e_7
  have G := G.trans s_7.agr
  have hbf := hbf.sub s_7
  have hs := hs.sub s_7
  have hA := hA.sub s_7
  have hb_7 : Has w_7 b_7 (b.cells) _ := hb_7
  refine RL.ev (.assign rfl) rfl rfl ?_
  refine RL.nil (RC.back ?_)
  refine RC.seq ?_
  refine RC.region rfl ?_
  refine RL.ev (.assign rfl) rfl rfl ?_
  refine RL.nil (RC.back ?_)
  refine RC.seq ?_
  refine RC.block ?_
  refine RC.loop (α := Nat × Int × List Int × Int) (fun x => [(0, .pointer (some ⟨bf, 0, none⟩)), (1, .int .u64 x.2.1), (3, .slice (some ⟨bs, 0, none⟩) A.nodes.length A.nodes.length), (4, .int .i64 left), (7, .pointer (some ⟨b_7, 0, none⟩)), (11, .int .i64 x.2.2.2)]) (fun x w1 => (hmF A x.1 x.2.1 b x.2.2.1 x.2.2.2 left = hmF A k r b out 0 left ∧ x.1 ≤ k ∧ 0 ≤ x.2.2.2 ∧ x.2.2.2 ≤ left ∧ left - x.2.2.2 < x.1 ∧ U64 x.2.1 ∧ Pl A x.2.2.1) ∧ Has w1 bf (wvC na fa nc fc A bad) 244 ∧ Has w1 bs ((flagsO A.nodes.length x.2.2.1).map Value.bool) 4 ∧ Has w1 b_7 b.cells 51 ∧ Ft M (fun u => ArR u na fa A) w1 ∧ Agr (· = bs) w w1) (fun x => x.1) (k, r, out, 0) (keep_of (by repeat (first | exact trivial | refine And.intro rfl ?_))) (⟨⟨rfl, Nat.le_refl _, Int.le_refl _, hl0, by show left - 0 < (k : Int); omega, hr, hp⟩, hbf, hs, hb_7, hA, G⟩) (fun x w1 hJ => ?_)
  obtain ⟨j1, r1, out1, sum⟩ := x; obtain ⟨⟨hT, hjk, hs0, hsl, hlj, hr1, hp1⟩, hbf, hs, hb_7, hA, G⟩ := hJ; simp only [] at hT hjk hs0 hsl hlj hr1 hp1 hs; obtain ⟨j, rfl⟩ : ∃ j, j1 = j + 1 := ⟨j1 - 1, by omega⟩; obtain ⟨y, e, hgv, hgs, hgn⟩ := getV_form2 A r1
  refine RC.seq ?_
  refine RC.seq ?_
  refine RC.region rfl ?_
  refine RL.ev (.move rfl) rfl rfl ?_
  refine RL.ev (.bin rfl rfl rfl) rfl rfl ?_
  refine RL.nil (RC.back ?_)
  refine RC.cond_dec rfl (fun h2 => ?_) (fun h2 => ?_)
  ·
    have hr0 := h2
    refine RC.skip (RC.back ?_)
    refine RC.block ?_
    refine RC.seq ?_
    refine RC.region rfl ?_
    refine RL.ev (.move rfl) rfl rfl ?_
    refine RL.ev (.nilCheck rfl) rfl rfl ?_
    refine RL.ev (.field0 fo244_0 rfl) rfl rfl ?_
    refine RL.ev (.loadR (wvA na fa nc fc A) sh26 rfl (row_pref (xs := wvA na fa nc fc A) (ys := [.int .i64 bad]) hbf) rfl) rfl rfl ?_
    refine RL.ev (.move rfl) rfl rfl ?_
    refine RL.call rfl ok125 (c_aGet A na fa nc fc r1 hr1 w1 hA.now) rfl rfl ?_
    rintro _ w3 ⟨rfl, s4⟩
    have G := G.trans s4.agr
    have hbf := hbf.sub s4
    have hs := hs.sub s4
    have hb_7 := hb_7.sub s4
    have hA := hA.sub s4
    refine RL.ev (.as (v' := .tuple #[y.val, .int .i64 e]) (.move rfl) (by rw [hgv])) rfl rfl ?_
    refine RL.ev (.extract rfl rfl) rfl rfl ?_
    refine RL.ev (.extract rfl rfl) rfl rfl ?_
    refine RL.alloc ze140 rfl rfl (fun b_12 w_12 e_12 z_12 hb_12 s_12 => ?_)
    have nf__12 := hbf.ne e_12
    have ns__12 := hs.ne e_12
    have n_7__12 := hb_7.ne e_12
    have d_hA_b_12 := hA.neNew e_12
    have geG_12 := agLe G e_12
    have G := G.trans s_12.agr
    have hbf := hbf.sub s_12
    have hs := hs.sub s_12
    have hb_7 := hb_7.sub s_12
    have hA := hA.sub s_12
    refine RL.store sh140 rfl rfl rfl hb_12 (by exact Nat.le_of_ble_eq_true rfl) (by rfl) rfl (fun w5 z5 hb_12 a5 => ?_)
    have G := agNew G a5 geG_12
    have hbf := hbf.upd a5 nf__12
    have hs := hs.upd a5 ns__12
    have hb_7 := hb_7.upd a5 n_7__12
    have hA := hA.updD a5 d_hA_b_12
    have hb_12 : Has w5 b_12 (y.cells) _ := hb_12.now (by kernel_rfl)
    refine RL.ev (.assign rfl) rfl rfl ?_
    refine RL.nil (RC.back ?_)
    refine RC.seq ?_
    refine RC.seq ?_
    refine RC.draw rfl mxo (by kernel_rfl) ?_
    refine RQ.ev (.move rfl) rfl rfl ?_
    refine RQ.ev (.bin rfl rfl rfl) rfl rfl ?_
    refine RQ.ev (.move rfl) rfl rfl ?_
    refine RQ.split 29 rfl (fun h6 => ?_) (fun h6 => ?_)
    ·
      have hres : hmF A k r b out 0 left = (-1, out1) := (by rw [← hT]; cases hg : getA A r1 with | none => exact hmF_none hr0 hg | some x => exact absurd (hgs x hg).2 h6)
      refine RQ.off rfl rfl ?_
      refine RQ.off rfl rfl ?_
      refine RQ.off rfl rfl ?_
      refine RQ.ev (.pick_t rfl rfl) rfl rfl ?_
      refine RQ.ev (.move rfl) rfl rfl ?_
      refine RQ.off rfl rfl ?_
      refine RQ.off rfl rfl ?_
      refine RQ.off rfl rfl ?_
      refine RQ.ev (.pick_t rfl rfl) rfl rfl ?_
      refine RQ.ev (.move rfl) rfl rfl ?_
      refine RQ.off rfl rfl ?_
      refine RQ.off rfl rfl ?_
      refine RQ.off rfl rfl ?_
      refine RQ.off rfl rfl ?_
      refine RQ.off rfl rfl ?_
      refine RQ.ev (.pick_t rfl rfl) rfl rfl ?_
      refine RQ.ev (.move rfl) rfl rfl ?_
      refine RQ.off rfl rfl ?_
      refine RQ.off rfl rfl ?_
      refine RQ.off rfl rfl ?_
      refine RQ.off rfl rfl ?_
      refine RQ.off rfl rfl ?_
      refine RQ.ev (.pick_t rfl rfl) rfl rfl ?_
      refine RQ.nil (fun w7 s8 => RC.back ?_)
      have G := G.trans s8.agr
      have hbf := hbf.sub s8
      have hs := hs.sub s8
      have hb_7 := hb_7.sub s8
      have hA := hA.sub s8
      have hb_12 := hb_12.sub s8
      refine RC.cond_t rfl ?_
      refine RC.seq ?_
      refine RC.region rfl ?_
      refine RL.ev (.assign rfl) rfl rfl ?_
      refine RL.nil (RC.back ?_)
      refine RC.done (rs := [.tmp 10]) (vs := [_]) rfl rfl ⟨rfl, trivial⟩ ?_
      -- end 1
      rw [hres]
      exact ⟨rfl, hs, G⟩
    ·
      have hy : getA A r1 = some y := (by cases hg : getA A r1 with | none => have := (hgn hg).2; omega | some x => rw [(hgs x hg).1])
      have hrg := getA_rng hy
      have hyo := hA.now.nok y (getA_nok hy)
      refine RQ.ev (.move rfl) rfl rfl ?_
      refine RQ.ev (.move rfl) rfl rfl ?_
      refine RQ.ev (.bin rfl rfl rfl) rfl rfl ?_
      refine RQ.ev (.pick_f rfl rfl) rfl rfl ?_
      refine RQ.ev (.move rfl) rfl rfl ?_
      refine RQ.split 34 rfl (fun h9 => ?_) (fun h9 => ?_)
      ·
        have hres := hT.symm.trans (hmF_bad (k := j) (b := b) (out := out1) hr0 hy (.inl h9))
        refine RQ.off rfl rfl ?_
        refine RQ.off rfl rfl ?_
        refine RQ.off rfl rfl ?_
        refine RQ.ev (.pick_t rfl rfl) rfl rfl ?_
        refine RQ.ev (.move rfl) rfl rfl ?_
        refine RQ.off rfl rfl ?_
        refine RQ.off rfl rfl ?_
        refine RQ.off rfl rfl ?_
        refine RQ.off rfl rfl ?_
        refine RQ.off rfl rfl ?_
        refine RQ.ev (.pick_t rfl rfl) rfl rfl ?_
        refine RQ.ev (.move rfl) rfl rfl ?_
        refine RQ.off rfl rfl ?_
        refine RQ.off rfl rfl ?_
        refine RQ.off rfl rfl ?_
        refine RQ.off rfl rfl ?_
        refine RQ.off rfl rfl ?_
        refine RQ.ev (.pick_t rfl rfl) rfl rfl ?_
        refine RQ.nil (fun w10 s11 => RC.back ?_)
        have G := G.trans s11.agr
        have hbf := hbf.sub s11
        have hs := hs.sub s11
        have hb_7 := hb_7.sub s11
        have hA := hA.sub s11
        have hb_12 := hb_12.sub s11
        refine RC.cond_t rfl ?_
        refine RC.seq ?_
        refine RC.region rfl ?_
        refine RL.ev (.assign rfl) rfl rfl ?_
        refine RL.nil (RC.back ?_)
        refine RC.done (rs := [.tmp 10]) (vs := [_]) rfl rfl ⟨rfl, trivial⟩ ?_
        -- end 2
        rw [hres]
        exact ⟨rfl, hs, G⟩
      ·
        have p34 := h9
        refine RQ.ev (.field0 fo140_0 rfl) rfl rfl ?_
        refine RQ.ev (.load1 sh3 rfl (hb_12.cell rfl)) rfl rfl ?_
        refine RQ.ev (.bin rfl rfl rfl) rfl rfl ?_
        refine RQ.ev (.pick_f rfl rfl) rfl rfl ?_
        refine RQ.ev (.move rfl) rfl rfl ?_
        refine RQ.split 39 rfl (fun h12 => ?_) (fun h12 => ?_)
        ·
          have hres := hT.symm.trans (hmF_bad (k := j) (b := b) (out := out1) (sum := sum) (left := left) hr0 hy (.inr (.inl h12)))
          refine RQ.off rfl rfl ?_
          refine RQ.off rfl rfl ?_
          refine RQ.off rfl rfl ?_
          refine RQ.off rfl rfl ?_
          refine RQ.off rfl rfl ?_
          refine RQ.ev (.pick_t rfl rfl) rfl rfl ?_
          refine RQ.ev (.move rfl) rfl rfl ?_
          refine RQ.off rfl rfl ?_
          refine RQ.off rfl rfl ?_
          refine RQ.off rfl rfl ?_
          refine RQ.off rfl rfl ?_
          refine RQ.off rfl rfl ?_
          refine RQ.ev (.pick_t rfl rfl) rfl rfl ?_
          refine RQ.nil (fun w13 s14 => RC.back ?_)
          have G := G.trans s14.agr
          have hbf := hbf.sub s14
          have hs := hs.sub s14
          have hb_7 := hb_7.sub s14
          have hA := hA.sub s14
          have hb_12 := hb_12.sub s14
          refine RC.cond_t rfl ?_
          refine RC.seq ?_
          refine RC.region rfl ?_
          refine RL.ev (.assign rfl) rfl rfl ?_
          refine RL.nil (RC.back ?_)
          refine RC.done (rs := [.tmp 10]) (vs := [_]) rfl rfl ⟨rfl, trivial⟩ ?_
          -- end 3
          rw [hres]
          exact ⟨rfl, hs, G⟩
        ·
          have p39 := h12
          refine RQ.ev (.move rfl) rfl rfl ?_
          refine RQ.ev (.move rfl) rfl rfl ?_
          refine RQ.call rfl ok169 (fun w' s' => c_refPlace r1 hr1 w') rfl rfl ?_
          refine RQ.ev (.indexO sl253 rfl rfl (by omega)) rfl rfl ?_
          refine RQ.ev (.load1 sh4 rfl (hs.cell (v := .bool (decide (placeR r1 ∈ out1))) (by rw [Nat.mul_one, Nat.zero_add, List.getElem?_map, flagsO_get _ _ _ (by omega)]; rfl))) rfl rfl ?_
          refine RQ.ev (.pick_f rfl rfl) rfl rfl ?_
          refine RQ.ev (.move rfl) rfl rfl ?_
          refine RQ.split 46 rfl (fun h15 => ?_) (fun h15 => ?_)
          ·
            have hres := hT.symm.trans (hmF_bad (k := j) (b := b) (out := out1) (sum := sum) (left := left) hr0 hy (.inr (.inr (.inl h15))))
            refine RQ.off rfl rfl ?_
            refine RQ.off rfl rfl ?_
            refine RQ.off rfl rfl ?_
            refine RQ.off rfl rfl ?_
            refine RQ.off rfl rfl ?_
            refine RQ.ev (.pick_t rfl rfl) rfl rfl ?_
            refine RQ.nil (fun w16 s17 => RC.back ?_)
            have G := G.trans s17.agr
            have hbf := hbf.sub s17
            have hs := hs.sub s17
            have hb_7 := hb_7.sub s17
            have hA := hA.sub s17
            have hb_12 := hb_12.sub s17
            refine RC.cond_t rfl ?_
            refine RC.seq ?_
            refine RC.region rfl ?_
            refine RL.ev (.assign rfl) rfl rfl ?_
            refine RL.nil (RC.back ?_)
            refine RC.done (rs := [.tmp 10]) (vs := [_]) rfl rfl ⟨rfl, trivial⟩ ?_
            -- end 4
            rw [hres]
            exact ⟨rfl, hs, G⟩
          ·
            have p46 := h15
            refine RQ.ev (.loadR (y.cells) sh140 rfl hb_12.row rfl) rfl rfl ?_
            refine RQ.call rfl ok102 (fun w' s' => c_hitem y w') rfl rfl ?_
            refine RQ.ev (.loadR (b.cells) sh51 rfl hb_7.row rfl) rfl rfl ?_
            refine RQ.call rfl ok103 (fun w' s' => c_horder (itN y) b w') rfl rfl ?_
            refine RQ.ev (.bin rfl rfl rfl) rfl rfl ?_
            refine RQ.ev (.pick_f rfl rfl) rfl rfl ?_
            refine RQ.nil (fun w18 s19 => RC.back ?_)
            have G := G.trans s19.agr
            have hbf := hbf.sub s19
            have hs := hs.sub s19
            have hb_7 := hb_7.sub s19
            have hA := hA.sub s19
            have hb_12 := hb_12.sub s19
            refine RC.cond_dec rfl (fun h20 => ?_) (fun h20 => ?_)
            ·
              have hres := hT.symm.trans (hmF_bad (k := j) (b := b) (out := out1) (sum := sum) (left := left) hr0 hy (.inr (.inr (.inr (cmpIt_lt.1 h20)))))
              refine RC.seq ?_
              refine RC.region rfl ?_
              refine RL.ev (.assign rfl) rfl rfl ?_
              refine RL.nil (RC.back ?_)
              refine RC.done (rs := [.tmp 10]) (vs := [_]) rfl rfl ⟨rfl, trivial⟩ ?_
              -- end 5
              rw [hres]
              exact ⟨rfl, hs, G⟩
            ·
              have hnb : ¬ (left ≤ sum ∨ ¬ y.kind = 6 ∨ placeR r1 ∈ out1 ∨ lessP (itN y) b) := (fun e => e.elim p34 (fun e => e.elim p39 (fun e => e.elim p46 (fun e => h20 (cmpIt_lt.2 e)))))
              have hk6 : y.kind = 6 := Decidable.not_not.1 p39
              have hp2 := hp1.add hrg p46
              refine RC.skip (RC.back ?_)
              refine RC.seq ?_
              refine RC.region rfl ?_
              refine RL.ev (.move rfl) rfl rfl ?_
              refine RL.ev (.move rfl) rfl rfl ?_
              refine RL.call rfl ok169 (c_refPlace r1 hr1 w18) rfl rfl ?_
              rintro _ w21 ⟨rfl, s22⟩
              have G := G.trans s22.agr
              have hbf := hbf.sub s22
              have hs := hs.sub s22
              have hb_7 := hb_7.sub s22
              have hA := hA.sub s22
              have hb_12 := hb_12.sub s22
              refine RL.ev (.indexO sl253 rfl rfl (by omega)) rfl rfl ?_
              refine RL.store sh4 rfl rfl rfl hs (by show 0 + (placeR r1).toNat * 1 + 1 ≤ _; rw [List.length_map, flagsO_len]; omega) (by rfl) rfl (fun w23 z23 hs a23 => ?_)
              have G := G.trans a23
              have hbf := hbf.upd a23 nfs
              have hb_7 := hb_7.upd a23 ns__7.symm
              have hA := hA.updD a23 hMs
              have hb_12 := hb_12.upd a23 ns__12.symm
              have hs := (Has.set1 (enc := Value.bool) (i := (placeR r1).toNat) (x := true) (by rw [Nat.zero_add, Nat.mul_one] at hs; exact hs))
              rw [flagsO_set _ _ _ hrg] at hs
              refine RL.nil (RC.back ?_)
              refine RC.seq ?_
              refine RC.region rfl ?_
              refine RL.ev (.field0 fo140_0 rfl) rfl rfl ?_
              refine RL.ev (.load1 sh3 rfl (hb_12.cell rfl)) rfl rfl ?_
              refine RL.ev (.field0 fo140_1 rfl) rfl rfl ?_
              refine RL.ev (.load1 sh3 rfl (hb_12.cell rfl)) rfl rfl ?_
              refine RL.ev (.field0 fo140_2 rfl) rfl rfl ?_
              refine RL.ev (.load1 sh2 rfl (hb_12.cell rfl)) rfl rfl ?_
              refine RL.ev (.field0 fo140_3 rfl) rfl rfl ?_
              refine RL.ev (.load1 sh2 rfl (hb_12.cell rfl)) rfl rfl ?_
              refine RL.ev (.field0 fo140_4 rfl) rfl rfl ?_
              refine RL.ev (.load1 sh2 rfl (hb_12.cell rfl)) rfl rfl ?_
              refine RL.ev (.buildS ze140 pl140 rfl rfl) rfl rfl ?_
              refine RL.alloc ze140 rfl rfl (fun b_14 w_14 e_14 z_14 hb_14 s_14 => ?_)
              have nf__14 := hbf.ne e_14
              have ns__14 := hs.ne e_14
              have n_7__14 := hb_7.ne e_14
              have n_12__14 := hb_12.ne e_14
              have d_hA_b_14 := hA.neNew e_14
              have geG_14 := agLe G e_14
              have G := G.trans s_14.agr
              have hbf := hbf.sub s_14
              have hs := hs.sub s_14
              have hb_7 := hb_7.sub s_14
              have hA := hA.sub s_14
              have hb_12 := hb_12.sub s_14
              refine RL.store sh140 rfl rfl rfl hb_14 (by exact Nat.le_of_ble_eq_true rfl) (by rfl) rfl (fun w24 z24 hb_14 a24 => ?_)
              have G := agNew G a24 geG_14
              have hbf := hbf.upd a24 nf__14
              have hs := hs.upd a24 ns__14
              have hb_7 := hb_7.upd a24 n_7__14
              have hA := hA.updD a24 d_hA_b_14
              have hb_12 := hb_12.upd a24 n_12__14
              have hb_14 : Has w24 b_14 ((hB1 y 0 0).cells) _ := hb_14.now (by kernel_rfl)
              refine RL.nil (RC.back ?_)
              refine RC.cutx (α := Unit) (fun _ => [(0, .pointer (some ⟨bf, 0, none⟩)), (1, .int .u64 r1), (3, .slice (some ⟨bs, 0, none⟩) A.nodes.length A.nodes.length), (4, .int .i64 left), (7, .pointer (some ⟨b_7, 0, none⟩)), (11, .int .i64 sum), (12, .pointer (some ⟨b_12, 0, none⟩)), (14, .pointer (some ⟨b_14, 0, none⟩))]) (fun _ w25 => Has w25 bf (wvC na fa nc fc A bad) 244 ∧ Has w25 bs ((flagsO A.nodes.length (out1 ++ [placeR r1])).map Value.bool) 4 ∧ Has w25 b_7 b.cells 51 ∧ Has w25 b_12 y.cells 140 ∧ Has w25 b_14 (hB1 y y.k0 y.k1).cells 140 ∧ Ft M (fun u => ArR u na fa A) w25 ∧ Agr (· = bs) w w25) ?_ (fun _ w25 hJ => ?_)
              ·
                refine RC.drawD (fun k => k = b_14) [8, 11] w24.heap.size 12 rfl rfl mxo (fun w26 s27 => ?_)
                have ltD_bf := hbf.lt
                have ltD_bs := hs.lt
                have ltD_b_7 := hb_7.lt
                have ltD_hA := fun k hk => (hA.ge k hk).2
                have ltD_b_12 := hb_12.lt
                have ltD_b_14 := hb_14.lt
                have szD := Nat.le_refl w24.heap.size
                have G := G.trans s27.agr
                have hbf := hbf.sub s27
                have hs := hs.sub s27
                have hb_7 := hb_7.sub s27
                have hA := hA.sub s27
                have hb_12 := hb_12.sub s27
                have hb_14 := hb_14.sub s27
                have szD := Nat.le_trans szD s27.size
                refine RD.take 0 rfl (by kernel_rfl) (by kernel_rfl) (by kernel_rfl) (fun w' s' => .field0 fo140_5 rfl) rfl rfl ?_
                refine RD.take 1 rfl (by kernel_rfl) (by kernel_rfl) (by kernel_rfl) (fun w' s' => .indexArr ar138 rfl rfl (by omega)) rfl rfl ?_
                refine RD.take 2 rfl (by kernel_rfl) (by kernel_rfl) (by kernel_rfl) (fun w' s' => .load1 sh31 rfl ((hb_12.step s' (fun e => e.elim (fun e => n_12__14 e) (fun e => Nat.not_le.2 ltD_b_12 e))).cell rfl)) rfl rfl ?_
                refine RD.take 3 rfl (by kernel_rfl) (by kernel_rfl) (by kernel_rfl) (fun w' s' => .field0 fo140_5 rfl) rfl rfl ?_
                refine RD.take 4 rfl (by kernel_rfl) (by kernel_rfl) (by kernel_rfl) (fun w' s' => .indexArr ar138 rfl rfl (by omega)) rfl rfl ?_
                refine RD.take 5 rfl (by kernel_rfl) (by kernel_rfl) (by kernel_rfl) (fun w' s' => .load1 sh31 rfl ((hb_12.step s' (fun e => e.elim (fun e => n_12__14 e) (fun e => Nat.not_le.2 ltD_b_12 e))).cell rfl)) rfl rfl ?_
                refine RD.take 6 rfl (by kernel_rfl) (by kernel_rfl) (by kernel_rfl) (fun w' s' => .field0 fo140_5 rfl) rfl rfl ?_
                refine RD.take 7 rfl (by kernel_rfl) (by kernel_rfl) (by kernel_rfl) (fun w' s' => .indexArr ar138 rfl rfl (by omega)) rfl rfl ?_
                refine RD.take 9 rfl (by kernel_rfl) (by kernel_rfl) (by kernel_rfl) (fun w' s' => .field0 fo140_5 rfl) rfl rfl ?_
                refine RD.all [8] (by kernel_rfl) rfl (RDs.cons rfl ?_ (RDs.nil))
                refine RL.store sh31 rfl rfl rfl hb_14 (by exact Nat.le_of_ble_eq_true rfl) (by rfl) rfl (fun w28 z28 hb_14 a28 => ?_)
                have G := agNew G a28 geG_14
                have hbf := hbf.upd a28 nf__14
                have hs := hs.upd a28 ns__14
                have hb_7 := hb_7.upd a28 n_7__14
                have hA := hA.updD a28 d_hA_b_14
                have hb_12 := hb_12.upd a28 n_12__14
                have szD := Nat.le_trans szD a28.size
                refine RD.backW rfl (a28.mono fun k _ e => e ▸ (.inl (rfl))) ?_
                refine RD.take 10 rfl (by kernel_rfl) (by kernel_rfl) (by kernel_rfl) (fun w' s' => .indexArr ar138 rfl rfl (by omega)) rfl rfl ?_
                refine RD.all [11] (by kernel_rfl) rfl (RDs.cons rfl ?_ (RDs.nil))
                refine RL.store sh31 rfl rfl rfl hb_14 (by exact Nat.le_of_ble_eq_true rfl) (by rfl) rfl (fun w29 z29 hb_14 a29 => ?_)
                have G := agNew G a29 geG_14
                have hbf := hbf.upd a29 nf__14
                have hs := hs.upd a29 ns__14
                have hb_7 := hb_7.upd a29 n_7__14
                have hA := hA.updD a29 d_hA_b_14
                have hb_12 := hb_12.upd a29 n_12__14
                have szD := Nat.le_trans szD a29.size
                refine RD.backW rfl (a29.mono fun k _ e => e ▸ (.inl (rfl))) ?_
                exact RD.done (by kernel_rfl) (fun a ka => ⟨(), ⟨hbf, hs, hb_7, hb_12, hb_14, hA, G⟩, ka.keep (keep_of (by repeat (first | exact trivial | refine And.intro rfl ?_)))⟩)
              obtain ⟨hbf, hs, hb_7, hb_12, hb_14, hA, G⟩ := hJ
              refine RC.seq ?_
              refine RC.drawD (fun k => k = bs) [11, 11] w25.heap.size 13 rfl rfl mxo (fun w30 s31 => ?_)
              have ltD_bf := hbf.lt
              have ltD_bs := hs.lt
              have ltD_b_7 := hb_7.lt
              have ltD_b_12 := hb_12.lt
              have ltD_b_14 := hb_14.lt
              have ltD_hA := fun k hk => (hA.ge k hk).2
              have szD := Nat.le_refl w25.heap.size
              have G := G.trans s31.agr
              have hbf := hbf.sub s31
              have hs := hs.sub s31
              have hb_7 := hb_7.sub s31
              have hb_12 := hb_12.sub s31
              have hb_14 := hb_14.sub s31
              have hA := hA.sub s31
              have szD := Nat.le_trans szD s31.size
              refine RD.take 0 rfl (by kernel_rfl) (by kernel_rfl) (by kernel_rfl) (fun w' s' => .move rfl) rfl rfl ?_
              refine RD.take 1 rfl (by kernel_rfl) (by kernel_rfl) (by kernel_rfl) (fun w' s' => .field0 fo140_5 rfl) rfl rfl ?_
              refine RD.take 2 rfl (by kernel_rfl) (by kernel_rfl) (by kernel_rfl) (fun w' s' => .indexArr ar138 rfl rfl (by omega)) rfl rfl ?_
              refine RD.take 3 rfl (by kernel_rfl) (by kernel_rfl) (by kernel_rfl) (fun w' s' => .load1 sh31 rfl ((hb_12.step s' (fun e => e.elim (fun e => ns__12.symm e) (fun e => Nat.not_le.2 ltD_b_12 e))).cell rfl)) rfl rfl ?_
              refine RD.take 4 rfl (by kernel_rfl) (by kernel_rfl) (by kernel_rfl) (fun w' s' => .loadR (y.cells) sh140 rfl (hb_12.step s' (fun e => e.elim (fun e => ns__12.symm e) (fun e => Nat.not_le.2 ltD_b_12 e))).row rfl) rfl rfl ?_
              refine RD.take 6 rfl (by kernel_rfl) (by kernel_rfl) (by kernel_rfl) (fun w' s' => .move rfl) rfl rfl ?_
              refine RD.take 7 rfl (by kernel_rfl) (by kernel_rfl) (by kernel_rfl) (fun w' s' => .move rfl) rfl rfl ?_
              refine RD.take 8 rfl (by kernel_rfl) (by kernel_rfl) (by kernel_rfl) (fun w' s' => .move rfl) rfl rfl ?_
              refine RD.take 9 rfl (by kernel_rfl) (by kernel_rfl) (by kernel_rfl) (fun w' s' => .as (.bin rfl rfl rfl) (wi64 (y := left - sum) (by rfl) (by omega))) rfl rfl ?_
              refine RD.take 10 rfl (by kernel_rfl) (by kernel_rfl) (by kernel_rfl) (fun w' s' => .as (.bin rfl rfl rfl) (wi64 (y := left - sum - 1) (by rfl) (by omega))) rfl rfl ?_
              refine RD.all [5] (by kernel_rfl) rfl (RDs.cons rfl ?_ (RDs.nil))
              refine RL.call rfl ok102 (c_hitem y w30) rfl rfl ?_
              rintro _ w32 ⟨rfl, s33⟩
              have G := G.trans s33.agr
              have hbf := hbf.sub s33
              have hs := hs.sub s33
              have hb_7 := hb_7.sub s33
              have hb_12 := hb_12.sub s33
              have hb_14 := hb_14.sub s33
              have hA := hA.sub s33
              have szD := Nat.le_trans szD s33.size
              refine RD.back s33.agr ?_
              refine RD.all [11] (by kernel_rfl) rfl (RDs.cons rfl ?_ (RDs.nil))
              refine RL.call rfl ok232 (ih j (by omega) y.k0 (itN y) (out1 ++ [placeR r1]) (left - sum - 1) w32 (hyo.kids _ (by simp [Node.kids])) (by omega) (by omega) (by omega) hp2 hbf hs hA) rfl rfl ?_
              rintro vr w34 ⟨hv, hs1, ag⟩
              have G := G.trans ag
              have hbf := hbf.upd ag nfs
              have hb_7 := hb_7.upd ag ns__7.symm
              have hb_12 := hb_12.upd ag ns__12.symm
              have hb_14 := hb_14.upd ag ns__14.symm
              have hA := hA.updD ag hMs
              have szD := Nat.le_trans szD ag.size
              have hs := hs1
              have hml := hmF_le A j y.k0 (itN y) (out1 ++ [placeR r1]) 0 (left - sum - 1) (Int.le_refl _) (by omega) hp2
              obtain ⟨⟨m, o⟩, hm⟩ : ∃ p, p = hmF A j y.k0 (itN y) (out1 ++ [placeR r1]) 0 (left - sum - 1) := ⟨_, rfl⟩
              rw [← hm] at hv hs hml
              simp only [] at hv hs hml
              subst hv
              refine RD.backW rfl (ag.mono fun k _ e => .inl e) ?_
              refine RD.take 12 rfl (by kernel_rfl) (by kernel_rfl) (by kernel_rfl) (fun w' s' => .assign rfl) rfl rfl ?_
              refine RD.done (by kernel_rfl) (RC.back ?_)
              refine RC.seq ?_
              refine RC.seq ?_
              refine RC.region rfl ?_
              refine RL.ev (.move rfl) rfl rfl ?_
              refine RL.ev (.bin rfl rfl rfl) rfl rfl ?_
              refine RL.ev (.move rfl) rfl rfl ?_
              refine RL.split 92 rfl (fun h36 => ?_) (fun h36 => ?_)
              ·
                have hres := hT.symm.trans (hmF_kid hr0 hy hnb hm.symm (.inl h36))
                refine RL.off rfl rfl ?_
                refine RL.off rfl rfl ?_
                refine RL.off rfl rfl ?_
                refine RL.ev (.pick_t rfl rfl) rfl rfl ?_
                refine RL.ev (.move rfl) rfl rfl ?_
                refine RL.off rfl rfl ?_
                refine RL.off rfl rfl ?_
                refine RL.off rfl rfl ?_
                refine RL.off rfl rfl ?_
                refine RL.off rfl rfl ?_
                refine RL.ev (.pick_t rfl rfl) rfl rfl ?_
                refine RL.nil (RC.back ?_)
                refine RC.cond_t rfl ?_
                refine RC.seq ?_
                refine RC.region rfl ?_
                refine RL.ev (.assign rfl) rfl rfl ?_
                refine RL.nil (RC.back ?_)
                refine RC.done (rs := [.tmp 10]) (vs := [_]) rfl rfl ⟨rfl, trivial⟩ ?_
                -- end 6
                rw [hres]
                exact ⟨rfl, hs, G⟩
              ·
                have hm0 := h36
                refine RL.ev (.loadR (y.cells) sh140 rfl hb_12.row rfl) rfl rfl ?_
                refine RL.ev (.loadR ((hB1 y y.k0 y.k1).cells) sh140 rfl hb_14.row rfl) rfl rfl ?_
                refine RL.ev (.neS (xs := y.cells) (ys := (hB1 y y.k0 y.k1).cells) fk140 eg140 sh140 rfl rfl rfl rfl rfl) rfl rfl ?_
                refine RL.ev (.pick_f rfl rfl) rfl rfl ?_
                refine RL.ev (.move rfl) rfl rfl ?_
                refine RL.splitB 97 rfl (fun h37 => ?_) (fun h37 => ?_)
                ·
                  have hres := hT.symm.trans (hmF_kid hr0 hy hnb hm.symm (.inr (.inl (fun e => by have h2 := h37; rw [eqL_cells, decide_eq_true ((hB1_iff hk6).2 e)] at h2; cases h2))))
                  refine RL.off rfl rfl ?_
                  refine RL.off rfl rfl ?_
                  refine RL.off rfl rfl ?_
                  refine RL.off rfl rfl ?_
                  refine RL.off rfl rfl ?_
                  refine RL.ev (.pick_t rfl rfl) rfl rfl ?_
                  refine RL.nil (RC.back ?_)
                  refine RC.cond_t rfl ?_
                  refine RC.seq ?_
                  refine RC.region rfl ?_
                  refine RL.ev (.assign rfl) rfl rfl ?_
                  refine RL.nil (RC.back ?_)
                  refine RC.done (rs := [.tmp 10]) (vs := [_]) rfl rfl ⟨rfl, trivial⟩ ?_
                  -- end 7
                  rw [hres]
                  exact ⟨rfl, hs, G⟩
                ·
                  have hbr : hBare y = y := (hB1_iff hk6).1 (by have h2 := h37; rw [eqL_cells] at h2; simpa using h2)
                  refine RL.ev (.move rfl) rfl rfl ?_
                  refine RL.ev (.as (.bin rfl rfl rfl) (wi64 (y := m + 1) (by rfl) (by omega))) rfl rfl ?_
                  refine RL.ev (.field0 fo140_4 rfl) rfl rfl ?_
                  refine RL.ev (.load1 sh2 rfl (hb_12.cell rfl)) rfl rfl ?_
                  refine RL.ev (.bin rfl rfl rfl) rfl rfl ?_
                  refine RL.ev (.pick_f rfl rfl) rfl rfl ?_
                  refine RL.nil (RC.back ?_)
                  refine RC.cond_dec rfl (fun h38 => ?_) (fun h38 => ?_)
                  ·
                    have hres := hT.symm.trans (hmF_kid hr0 hy hnb hm.symm (.inr (.inr h38)))
                    refine RC.seq ?_
                    refine RC.region rfl ?_
                    refine RL.ev (.assign rfl) rfl rfl ?_
                    refine RL.nil (RC.back ?_)
                    refine RC.done (rs := [.tmp 10]) (vs := [_]) rfl rfl ⟨rfl, trivial⟩ ?_
                    -- end 8
                    rw [hres]
                    exact ⟨rfl, hs, G⟩
                  ·
                    have hnx := hmF_next hr0 hy hnb hm.symm (fun e => e.elim hm0 (fun e => e.elim (fun e => e hbr) (fun e => h38 e)))
                    refine RC.skip (RC.back ?_)
                    refine RC.draw rfl mxo (by kernel_rfl) ?_
                    refine RQ.ev (.move rfl) rfl rfl ?_
                    refine RQ.ev (.move rfl) rfl rfl ?_
                    refine RQ.ev (.as (.bin rfl rfl rfl) (wi64 (y := sum + m) (by rfl) (by omega))) rfl rfl ?_
                    refine RQ.ev (.as (.bin rfl rfl rfl) (wi64 (y := sum + m + 1) (by rfl) (by omega))) rfl rfl ?_
                    refine RQ.ev (.field0 fo140_5 rfl) rfl rfl ?_
                    refine RQ.ev (.indexArr ar138 rfl rfl (by omega)) rfl rfl ?_
                    refine RQ.ev (.load1 sh31 rfl (hb_12.cell rfl)) rfl rfl ?_
                    refine RQ.ev (.assign rfl) rfl rfl ?_
                    refine RQ.ev (.assign rfl) rfl rfl ?_
                    refine RQ.nil (fun w39 s40 => ?_)
                    have G := G.trans s40.agr
                    have hbf := hbf.sub s40
                    have hs := hs.sub s40
                    have hb_7 := hb_7.sub s40
                    have hb_12 := hb_12.sub s40
                    have hb_14 := hb_14.sub s40
                    have hA := hA.sub s40
                    exact fun a ka => ⟨(j, y.k1, o, sum + m + 1), ⟨⟨hnx.symm.trans hT, by show j ≤ k; omega, by show 0 ≤ sum + m + 1; omega, by show sum + m + 1 ≤ left; omega, by show left - (sum + m + 1) < (j : Int); omega, hyo.kids _ (by simp [Node.kids]), hml.2.2⟩, hbf, hs, hb_7, hA, G⟩, by show j < j + 1; omega, ka.keep (keep_of (by repeat (first | exact trivial | refine And.intro rfl ?_)))⟩
  ·
    have hr0 : r1 = 0 := Decidable.not_not.1 h2
    have hres : hmF A k r b out 0 left = (sum, out1) := (by rw [← hT, hr0, hmF_0])
    refine RC.exit rfl (RC.back ?_)
    refine RC.seq ?_
    refine RC.region rfl ?_
    refine RL.ev (.move rfl) rfl rfl ?_
    refine RL.ev (.assign rfl) rfl rfl ?_
    refine RL.nil (RC.back ?_)
    refine RC.done (rs := [.tmp 10]) (vs := [_]) rfl rfl ⟨rfl, trivial⟩ ?_
    -- end 9
    rw [hres]
    exact ⟨rfl, hs, G⟩
end Go.Proofs.YtbjmllnddanniaaGreat
set_option linter.unusedVariables false
set_option linter.unusedSimpArgs false
namespace Go.Proofs.YtbjmllnddanniaaGreat
open Go Go.XL
theorem topIt_N (A : Ar) (r : Int) : topIt A r = itN (getN A r) := by unfold topIt getN; cases getA A r <;> rfl
theorem topK1_N (A : Ar) (r : Int) : topK1 A r = (getN A r).k1 := by unfold topK1 getN; cases getA A r <;> rfl
noncomputable def allHp (A : Ar) (l : List Int) : Bool := aokB A && l.all (hpOk A)
theorem allHp_iff {A : Ar} {l : List Int} : allHp A l = true ↔ AOk A ∧ ∀ r ∈ l, ∃ P L, IsP A r P L := by
  unfold allHp
  rw [Bool.and_eq_true, List.all_eq_true, aokB_iff]
  exact and_congr_right fun _ => forall_congr' fun r => imp_congr_right fun _ => hpOk_iff A r
theorem hpTake {A : Ar} {l : List Int} {i : Nat} {y : Int} (hy : l[i]? = some y) (hp : (l.take i).all (hpOk A) = true) (h : hpOk A y = true) : (l.take (i + 1)).all (hpOk A) = true := by
  have hi : i < l.length := lt_of_get hy
  rw [List.take_add_one, hy, List.all_append, hp]; simp [h]
theorem hpNo {A : Ar} {l : List Int} {i : Nat} {y : Int} (hy : l[i]? = some y) (h : hpOk A y = false) : l.all (hpOk A) = false := by
  rw [Bool.eq_false_iff]
  intro e
  have := List.all_eq_true.1 e y (List.mem_of_getElem? hy)
  rw [h] at this; cases this
set_option maxHeartbeats 1000000 in
theorem c_hpR (A : Ar) (na fa : Option Addr) (nc fc : Nat) (l : List Int) (pa : Option Addr) (pc : Nat) (hl : l.length ≤ 10000) (hli : ∀ x ∈ l, U64 x) (w : World) (hA : ArR w na fa A) (hP : Sl w pa 1 (l.map fun x => [u6 x])) :
    FC Tryz.prog 170 [arV na fa nc fc A, .slice pa l.length pc] w (Val (.bool (allHp A l)) w) := by
  have hN := hA.nodes
  have hFr := hA.free
  have hF : Ft (· < w.heap.size) (fun u => ArR u na fa A) w := Ft.of_sub fun u s => hA.sub s
  refine FC.intro Tryz.func170 rfl Tryz.ntmps170 rfl ?_
  have S := Sub.refl w
  refine RC.seq ?_
  refine RC.region rfl ?_
  refine RL.box rfl rfl rfl (fun b_2 w_2 e_2 z_2 hb_2 s_2 => ?_)
  have ge_2 := S.le e_2
  have S := S.trans s_2
  have hb_2 : Has w_2 b_2 ([.slice na A.nodes.length nc, .slice fa A.free.length fc]) _ := hb_2
  refine RL.ev (.assign rfl) rfl rfl ?_
  refine RL.nil (RC.back ?_)
  refine RC.seq ?_
  refine RC.region rfl ?_
  refine RL.ev (.loadR ([.slice na A.nodes.length nc, .slice fa A.free.length fc]) sh26 rfl hb_2.row rfl) rfl rfl ?_
  refine RL.ev (.buildS ze244 pl244 rfl rfl) rfl rfl ?_
  refine RL.box rfl rfl rfl (fun b_11 w_11 e_11 z_11 hb_11 s_11 => ?_)
  have ge_11 := S.le e_11
  have n_2__11 := hb_2.ne e_11
  have S := S.trans s_11
  have hb_2 := hb_2.sub s_11
  have hb_11 : Has w_11 b_11 (wvC na fa nc fc A 0) 244 := hb_11
  refine RL.ev (.assign rfl) rfl rfl ?_
  refine RL.nil (RC.back ?_)
  refine RC.seq ?_
  refine RC.seq ?_
  refine RC.region rfl ?_
  refine RL.ev (.loadR ([.slice na A.nodes.length nc, .slice fa A.free.length fc]) sh26 rfl hb_2.row rfl) rfl rfl ?_
  refine RL.call rfl ok109 (c_aRight A na fa nc fc w_11 (hA.sub S)) rfl rfl ?_
  rintro _ w1 ⟨rfl, s2⟩
  have S := S.trans s2
  have hb_2 := hb_2.sub s2
  have hb_11 := hb_11.sub s2
  refine RL.ev (.not rfl) rfl rfl ?_
  refine RL.nil (RC.back ?_)
  refine RC.cond rfl (fun h3 => ?_) (fun h3 => ?_)
  ·
    have hno : aokB A = false := (by simpa using h3)
    refine RC.seq ?_
    refine RC.region rfl ?_
    refine RL.ev (.assign rfl) rfl rfl ?_
    refine RL.nil (RC.back ?_)
    refine RC.done (rs := [.tmp 4]) (vs := [_]) rfl rfl ⟨rfl, trivial⟩ ?_
    -- end 1
    rw [allHp, hno]
    exact ⟨rfl, S⟩
  ·
    have hokb : aokB A = true := (by simpa using h3)
    have hok : AOk A := (aokB_iff A).1 hokb
    have hmost := hok.most
    refine RC.skip (RC.back ?_)
    refine RC.seq ?_
    refine RC.seq ?_
    refine RC.region rfl ?_
    refine RL.ev (.move rfl) rfl rfl ?_
    refine RL.ev (.len sl73 rfl) rfl rfl ?_
    refine RL.ev (.move rfl) rfl rfl ?_
    refine RL.nil (RC.back ?_)
    refine RC.block ?_
    refine RC.loop (α := Nat) (fun i => [(2, .pointer (some ⟨b_2, 0, none⟩)), (5, .pointer (some ⟨b_11, 0, none⟩)), (15, .slice pa l.length pc), (16, .int .i64 (l.length : Int)), (17, .int .i64 (i : Int))]) (fun i w4 => i ≤ l.length ∧ (l.take i).all (hpOk A) = true ∧ Has w4 b_2 [.slice na A.nodes.length nc, .slice fa A.free.length fc] 26 ∧ Has w4 b_11 (wvC na fa nc fc A 0) 244 ∧ Sub w w4) (fun i => l.length - i) 0 (keep_of (by repeat (first | exact trivial | refine And.intro rfl ?_))) (⟨Nat.zero_le _, rfl, hb_2, hb_11, S⟩) (fun i w4 hJ => ?_)
    obtain ⟨hi, hp, hb_2, hb_11, S⟩ := hJ
    refine RC.seq ?_
    refine RC.region rfl ?_
    refine RL.ev (.bin rfl rfl rfl) rfl rfl ?_
    refine RL.nil (RC.back ?_)
    refine RC.seq ?_
    refine RC.cond_dec rfl (fun h5 => ?_) (fun h5 => ?_)
    ·
      obtain ⟨y, hy⟩ := getSome (l := l) (i := i) (by omega)
      have hyu := hli y (List.mem_of_getElem? hy)
      refine RC.skip (RC.back ?_)
      refine RC.seq ?_
      refine RC.block ?_
      refine RC.seq ?_
      refine RC.region rfl ?_
      refine RL.ev (.indexS sl73 rfl rfl (by omega) (hP.is (i := 0) (by simp only [List.length_map, List.length_cons, List.length_nil]; omega))) rfl rfl ?_
      refine RL.ev (.load1 sh31 rfl ((hP.sub S).one (enc := u6) (i := i) hy)) rfl rfl ?_
      refine RL.ev (.assign rfl) rfl rfl ?_
      refine RL.nil (RC.back ?_)
      refine RC.seq ?_
      refine RC.region rfl ?_
      refine RL.ev (.move rfl) rfl rfl ?_
      refine RL.ev (.move rfl) rfl rfl ?_
      refine RL.call rfl ok149 (c_hpget A na fa nc fc 0 b_11 y hyu w4 hb_11 (hA.sub S)) rfl rfl ?_
      rintro _ w6 ⟨rfl, s7⟩
      have S := S.trans s7
      have hb_2 := hb_2.sub s7
      have hb_11 := hb_11.sub s7
      refine RL.alloc ze140 rfl rfl (fun b_8 w_8 e_8 z_8 hb_8 s_8 => ?_)
      have ge_8 := S.le e_8
      have n_2__8 := hb_2.ne e_8
      have n_11__8 := hb_11.ne e_8
      have S := S.trans s_8
      have hb_2 := hb_2.sub s_8
      have hb_11 := hb_11.sub s_8
      refine RL.store sh140 rfl rfl rfl hb_8 (by exact Nat.le_of_ble_eq_true rfl) (by rfl) rfl (fun w8 z8 hb_8 a8 => ?_)
      have S := S.upd a8 ge_8
      have hb_2 := hb_2.upd a8 n_2__8
      have hb_11 := hb_11.upd a8 n_11__8
      refine RL.nil (RC.back ?_)
      refine RC.seq ?_
      refine RC.drawD (fun k => False) [8] w8.heap.size 16 rfl rfl mxo (fun w9 s10 => ?_)
      have hNN : ∀ k, ((False) ∨ w8.heap.size ≤ k) → w.heap.size ≤ k := fun k e => e.elim (fun e => e.elim) (fun e => Nat.le_trans S.size e)
      have ent_S := S.size
      have hN0 : ∀ k, w8.heap.size ≤ k → w.heap.size ≤ k := fun k e => Nat.le_trans S.size e
      have ltD_b_2 := hb_2.lt
      have ltD_b_11 := hb_11.lt
      have ltD_b_8 := hb_8.lt
      have szD := Nat.le_refl w8.heap.size
      have S := S.trans s10
      have hb_2 := hb_2.sub s10
      have hb_11 := hb_11.sub s10
      have hb_8 := hb_8.sub s10
      have szD := Nat.le_trans szD s10.size
      refine RD.take 0 rfl (by kernel_rfl) (by kernel_rfl) (by kernel_rfl) (fun w' s' => .move rfl) rfl rfl ?_
      refine RD.take 1 rfl (by kernel_rfl) (by kernel_rfl) (by kernel_rfl) (fun w' s' => .move rfl) rfl rfl ?_
      refine RD.take 2 rfl (by kernel_rfl) (by kernel_rfl) (by kernel_rfl) (fun w' s' => .loadR (_) sh140 rfl (hb_8.step s' (fun e => e.elim (fun e => e.elim) (fun e => Nat.not_le.2 ltD_b_8 e))).row rfl) rfl rfl ?_
      refine RD.take 4 rfl (by kernel_rfl) (by kernel_rfl) (by kernel_rfl) (fun w' s' => .field0 fo26_0 rfl) rfl rfl ?_
      refine RD.take 5 rfl (by kernel_rfl) (by kernel_rfl) (by kernel_rfl) (fun w' s' => .load1 sh23 rfl ((hb_2.step s' (fun e => e.elim (fun e => e.elim) (fun e => Nat.not_le.2 ltD_b_2 e))).cell rfl)) rfl rfl ?_
      refine RD.take 6 rfl (by kernel_rfl) (by kernel_rfl) (by kernel_rfl) (fun w' s' => .len sl23 rfl) rfl rfl ?_
      refine RD.all [3, 7] (by kernel_rfl) rfl (RDs.cons rfl ?_ (RDs.cons rfl ?_ (RDs.nil)))
      ·
        refine RL.call rfl ok102 (c_hitem (getN A y) w9) rfl rfl ?_
        rintro _ w11 ⟨rfl, s12⟩
        have S := S.trans s12
        have hb_2 := hb_2.sub s12
        have hb_11 := hb_11.sub s12
        have hb_8 := hb_8.sub s12
        have szD := Nat.le_trans szD s12.size
        refine RD.back s12.agr ?_
        refine RD.all [7] (by kernel_rfl) rfl (RDs.cons rfl ?_ (RDs.nil))
        refine RL.makeSlice sl253 ze4 rfl rfl rfl rfl (by omega) rfl rfl (fun b_31 w_31 e_31 z_31 hb_31 s_31 => ?_)
        have fr_b_31 : w8.heap.size ≤ b_31 := by rw [e_31]; exact szD
        have ge_31 := S.le e_31
        have n_2__31 := hb_2.ne e_31
        have n_11__31 := hb_11.ne e_31
        have n_8__31 := hb_8.ne e_31
        have S := S.trans s_31
        have hb_2 := hb_2.sub s_31
        have hb_11 := hb_11.sub s_31
        have hb_8 := hb_8.sub s_31
        have szD := Nat.le_trans szD s_31.size
        have hb_31 : Has w_31 b_31 ((flagsO A.nodes.length []).map Value.bool) 4 := by have := hb_31; rw [flagsO_nil, List.map_replicate]; rw [Int.toNat_natCast] at this; rw [← rep1]; exact this
        refine RD.back s_31.agr ?_
        refine RD.all [8] (by kernel_rfl) rfl (RDs.cons rfl ?_ (RDs.nil))
        refine RL.call rfl ok232 (c_pmay A na fa nc fc 0 b_11 b_31 n_11__31 (· < w.heap.size) (fun k hk e => by have := ge_31; omega) hmost 201 y (itN (getN A y)) [] 200 w_31 hyu (by decide) (by decide) (by decide) (Pl.nil A) hb_11 hb_31 (hF.sub S)) rfl rfl ?_
        rintro vr w13 ⟨hv, _, ag⟩
        have S := S.upd ag ge_31
        have hb_2 := hb_2.upd ag n_2__31
        have hb_11 := hb_11.upd ag n_11__31
        have hb_8 := hb_8.upd ag n_8__31
        have szD := Nat.le_trans szD ag.size
        subst hv
        refine RD.backW rfl (ag.mono fun k _ e => .inr (e ▸ fr_b_31)) ?_
        refine RD.take 9 rfl (by kernel_rfl) (by kernel_rfl) (by kernel_rfl) (fun w' s' => .bin rfl rfl rfl) rfl rfl ?_
        refine RD.take 10 rfl (by kernel_rfl) (by kernel_rfl) (by kernel_rfl) (fun w' s' => .move rfl) rfl rfl ?_
        refine RD.split 34 rfl (fun h15 => ?_) (fun h15 => ?_)
        ·
          have hbad : hpOk A y = false := (by unfold hpOk; rw [topIt_N, decide_eq_true h15]; rfl)
          refine RD.takeOff 11 rfl (by kernel_rfl) (by kernel_rfl) (by kernel_rfl) rfl rfl ?_
          refine RD.takeOff 12 rfl (by kernel_rfl) (by kernel_rfl) (by kernel_rfl) rfl rfl ?_
          refine RD.takeOff 13 rfl (by kernel_rfl) (by kernel_rfl) (by kernel_rfl) rfl rfl ?_
          refine RD.takeOff 14 rfl (by kernel_rfl) (by kernel_rfl) (by kernel_rfl) rfl rfl ?_
          refine RD.take 15 rfl (by kernel_rfl) (by kernel_rfl) (by kernel_rfl) (fun w' s' => .pick_t rfl rfl) rfl rfl ?_
          refine RD.done (by kernel_rfl) (RC.back ?_)
          refine RC.cond_t rfl ?_
          refine RC.seq ?_
          refine RC.region rfl ?_
          refine RL.ev (.assign rfl) rfl rfl ?_
          refine RL.nil (RC.back ?_)
          refine RC.done (rs := [.tmp 4]) (vs := [_]) rfl rfl ⟨rfl, trivial⟩ ?_
          -- end 2
          rw [allHp, hpNo hy hbad, Bool.and_false]
          exact ⟨rfl, S⟩
        ·
          have h34 := h15
          refine RD.take 11 rfl (by kernel_rfl) (by kernel_rfl) (by kernel_rfl) (fun w' s' => .field0 fo140_5 rfl) rfl rfl ?_
          refine RD.take 12 rfl (by kernel_rfl) (by kernel_rfl) (by kernel_rfl) (fun w' s' => .indexArr ar138 rfl rfl (by omega)) rfl rfl ?_
          refine RD.take 13 rfl (by kernel_rfl) (by kernel_rfl) (by kernel_rfl) (fun w' s' => .load1 sh31 rfl ((hb_8.step s' (fun e => e.elim (fun e => e.elim) (fun e => Nat.not_le.2 ltD_b_8 e))).cell rfl)) rfl rfl ?_
          refine RD.take 14 rfl (by kernel_rfl) (by kernel_rfl) (by kernel_rfl) (fun w' s' => .bin rfl rfl rfl) rfl rfl ?_
          refine RD.take 15 rfl (by kernel_rfl) (by kernel_rfl) (by kernel_rfl) (fun w' s' => .pick_f rfl rfl) rfl rfl ?_
          refine RD.done (by kernel_rfl) (RC.back ?_)
          refine RC.cond_dec rfl (fun h16 => ?_) (fun h16 => ?_)
          ·
            have hbad : hpOk A y = false := (by unfold hpOk; rw [topK1_N, decide_eq_true h16, Bool.or_true]; rfl)
            refine RC.seq ?_
            refine RC.region rfl ?_
            refine RL.ev (.assign rfl) rfl rfl ?_
            refine RL.nil (RC.back ?_)
            refine RC.done (rs := [.tmp 4]) (vs := [_]) rfl rfl ⟨rfl, trivial⟩ ?_
            -- end 3
            rw [allHp, hpNo hy hbad, Bool.and_false]
            exact ⟨rfl, S⟩
          ·
            have hgood : hpOk A y = true := (by unfold hpOk; rw [topIt_N, topK1_N, decide_eq_false h34, decide_eq_false h16]; rfl)
            refine RC.skip (RC.back ?_)
            refine RC.region rfl ?_
            refine RL.ev (.as (.bin rfl rfl rfl) (wi64 (y := ((i + 1 : Nat) : Int)) (by omega) (by omega))) rfl rfl ?_
            refine RL.ev (.move rfl) rfl rfl ?_
            exact RL.nil (fun a ka => ⟨i + 1, ⟨by omega, hpTake hy hp hgood, hb_2, hb_11, S⟩, by omega, ka.keep (keep_of (by repeat (first | exact trivial | refine And.intro rfl ?_)))⟩)
      ·
        refine RL.makeSlice sl253 ze4 rfl rfl rfl rfl (by omega) rfl rfl (fun b_31 w_31 e_31 z_31 hb_31 s_31 => ?_)
        have fr_b_31 : w8.heap.size ≤ b_31 := by rw [e_31]; exact szD
        have ge_31 := S.le e_31
        have n_2__31 := hb_2.ne e_31
        have n_11__31 := hb_11.ne e_31
        have n_8__31 := hb_8.ne e_31
        have S := S.trans s_31
        have hb_2 := hb_2.sub s_31
        have hb_11 := hb_11.sub s_31
        have hb_8 := hb_8.sub s_31
        have szD := Nat.le_trans szD s_31.size
        have hb_31 : Has w_31 b_31 ((flagsO A.nodes.length []).map Value.bool) 4 := by have := hb_31; rw [flagsO_nil, List.map_replicate]; rw [Int.toNat_natCast] at this; rw [← rep1]; exact this
        refine RD.back s_31.agr ?_
        refine RD.all [3] (by kernel_rfl) rfl (RDs.cons rfl ?_ (RDs.nil))
        refine RL.call rfl ok102 (c_hitem (getN A y) w_31) rfl rfl ?_
        rintro _ w17 ⟨rfl, s18⟩
        have S := S.trans s18
        have hb_2 := hb_2.sub s18
        have hb_11 := hb_11.sub s18
        have hb_8 := hb_8.sub s18
        have szD := Nat.le_trans szD s18.size
        have hb_31 := hb_31.sub s18
        refine RD.back s18.agr ?_
        refine RD.all [8] (by kernel_rfl) rfl (RDs.cons rfl ?_ (RDs.nil))
        refine RL.call rfl ok232 (c_pmay A na fa nc fc 0 b_11 b_31 n_11__31 (· < w.heap.size) (fun k hk e => by have := ge_31; omega) hmost 201 y (itN (getN A y)) [] 200 w17 hyu (by decide) (by decide) (by decide) (Pl.nil A) hb_11 hb_31 (hF.sub S)) rfl rfl ?_
        rintro vr w19 ⟨hv, _, ag⟩
        have S := S.upd ag ge_31
        have hb_2 := hb_2.upd ag n_2__31
        have hb_11 := hb_11.upd ag n_11__31
        have hb_8 := hb_8.upd ag n_8__31
        have szD := Nat.le_trans szD ag.size
        subst hv
        refine RD.backW rfl (ag.mono fun k _ e => .inr (e ▸ fr_b_31)) ?_
        refine RD.take 9 rfl (by kernel_rfl) (by kernel_rfl) (by kernel_rfl) (fun w' s' => .bin rfl rfl rfl) rfl rfl ?_
        refine RD.take 10 rfl (by kernel_rfl) (by kernel_rfl) (by kernel_rfl) (fun w' s' => .move rfl) rfl rfl ?_
        refine RD.split 34 rfl (fun h21 => ?_) (fun h21 => ?_)
        ·
          have hbad : hpOk A y = false := (by unfold hpOk; rw [topIt_N, decide_eq_true h21]; rfl)
          refine RD.takeOff 11 rfl (by kernel_rfl) (by kernel_rfl) (by kernel_rfl) rfl rfl ?_
          refine RD.takeOff 12 rfl (by kernel_rfl) (by kernel_rfl) (by kernel_rfl) rfl rfl ?_
          refine RD.takeOff 13 rfl (by kernel_rfl) (by kernel_rfl) (by kernel_rfl) rfl rfl ?_
          refine RD.takeOff 14 rfl (by kernel_rfl) (by kernel_rfl) (by kernel_rfl) rfl rfl ?_
          refine RD.take 15 rfl (by kernel_rfl) (by kernel_rfl) (by kernel_rfl) (fun w' s' => .pick_t rfl rfl) rfl rfl ?_
          refine RD.done (by kernel_rfl) (RC.back ?_)
          refine RC.cond_t rfl ?_
          refine RC.seq ?_
          refine RC.region rfl ?_
          refine RL.ev (.assign rfl) rfl rfl ?_
          refine RL.nil (RC.back ?_)
          refine RC.done (rs := [.tmp 4]) (vs := [_]) rfl rfl ⟨rfl, trivial⟩ ?_
          -- end 4
          rw [allHp, hpNo hy hbad, Bool.and_false]
          exact ⟨rfl, S⟩
        ·
          have h34 := h21
          refine RD.take 11 rfl (by kernel_rfl) (by kernel_rfl) (by kernel_rfl) (fun w' s' => .field0 fo140_5 rfl) rfl rfl ?_
          refine RD.take 12 rfl (by kernel_rfl) (by kernel_rfl) (by kernel_rfl) (fun w' s' => .indexArr ar138 rfl rfl (by omega)) rfl rfl ?_
          refine RD.take 13 rfl (by kernel_rfl) (by kernel_rfl) (by kernel_rfl) (fun w' s' => .load1 sh31 rfl ((hb_8.step s' (fun e => e.elim (fun e => e.elim) (fun e => Nat.not_le.2 ltD_b_8 e))).cell rfl)) rfl rfl ?_
          refine RD.take 14 rfl (by kernel_rfl) (by kernel_rfl) (by kernel_rfl) (fun w' s' => .bin rfl rfl rfl) rfl rfl ?_
          refine RD.take 15 rfl (by kernel_rfl) (by kernel_rfl) (by kernel_rfl) (fun w' s' => .pick_f rfl rfl) rfl rfl ?_
          refine RD.done (by kernel_rfl) (RC.back ?_)
          refine RC.cond_dec rfl (fun h22 => ?_) (fun h22 => ?_)
          ·
            have hbad : hpOk A y = false := (by unfold hpOk; rw [topK1_N, decide_eq_true h22, Bool.or_true]; rfl)
            refine RC.seq ?_
            refine RC.region rfl ?_
            refine RL.ev (.assign rfl) rfl rfl ?_
            refine RL.nil (RC.back ?_)
            refine RC.done (rs := [.tmp 4]) (vs := [_]) rfl rfl ⟨rfl, trivial⟩ ?_
            -- end 5
            rw [allHp, hpNo hy hbad, Bool.and_false]
            exact ⟨rfl, S⟩
          ·
            have hgood : hpOk A y = true := (by unfold hpOk; rw [topIt_N, topK1_N, decide_eq_false h34, decide_eq_false h22]; rfl)
            refine RC.skip (RC.back ?_)
            refine RC.region rfl ?_
            refine RL.ev (.as (.bin rfl rfl rfl) (wi64 (y := ((i + 1 : Nat) : Int)) (by omega) (by omega))) rfl rfl ?_
            refine RL.ev (.move rfl) rfl rfl ?_
            exact RL.nil (fun a ka => ⟨i + 1, ⟨by omega, hpTake hy hp hgood, hb_2, hb_11, S⟩, by omega, ka.keep (keep_of (by repeat (first | exact trivial | refine And.intro rfl ?_)))⟩)
    ·
      obtain rfl : i = l.length := (by omega)
      rw [List.take_length] at hp
      refine RC.exit rfl (RC.back ?_)
      refine RC.seq ?_
      refine RC.region rfl ?_
      refine RL.ev (.assign rfl) rfl rfl ?_
      refine RL.nil (RC.back ?_)
      refine RC.done (rs := [.tmp 4]) (vs := [_]) rfl rfl ⟨rfl, trivial⟩ ?_
      -- end 6
      rw [allHp, hp, hokb]
      exact ⟨rfl, S⟩
theorem c_hpRight (A : Ar) (na fa : Option Addr) (nc fc : Nat) (r : Int) (hr : U64 r) (w : World) (hA : ArR w na fa A) :
    FC Tryz.prog 101 [arV na fa nc fc A, .int .u64 r] w (Val (.bool (allHp A [r])) w) := by
  refine FC.intro Tryz.func101 rfl Tryz.ntmps101 rfl ?_
  have S := Sub.refl w
  refine RC.seq ?_
  refine RC.region rfl ?_
  refine RL.box rfl rfl rfl (fun b_2 w_2 e_2 z_2 hb_2 s_2 => ?_)
  have ge_2 := S.le e_2
  have S := S.trans s_2
  have hb_2 : Has w_2 b_2 ([.slice na A.nodes.length nc, .slice fa A.free.length fc]) _ := hb_2
  refine RL.ev (.assign rfl) rfl rfl ?_
  refine RL.nil (RC.back ?_)
  refine RC.seq ?_
  refine RC.region rfl ?_
  refine RL.ev (.loadR ([.slice na A.nodes.length nc, .slice fa A.free.length fc]) sh26 rfl hb_2.row rfl) rfl rfl ?_
  refine RL.ev (.move rfl) rfl rfl ?_
  refine RL.buildSlice1 sl73 _ ze31 rfl rfl rfl rfl rfl rfl rfl (fun b_7 w_7 e_7 z_7 hb_7 s_7 => ?_)
  have ge_7 := S.le e_7
  have n_2__7 := hb_2.ne e_7
  have S := S.trans s_7
  have hb_2 := hb_2.sub s_7
  refine RL.call rfl ok170 (c_hpR A na fa nc fc [r] (some ⟨b_7, 0, none⟩) 1 (by simp) (fun x hx => by rw [List.mem_singleton.1 hx]; exact hr) w_7 (hA.sub S) (Has.sl1 (enc := u6) (l := [r]) hb_7)) rfl rfl ?_
  rintro _ w1 ⟨rfl, s2⟩
  have S := S.trans s2
  have hb_2 := hb_2.sub s2
  have hb_7 := hb_7.sub s2
  refine RL.ev (.assign rfl) rfl rfl ?_
  refine RL.nil (RC.back ?_)
  refine RC.done (rs := [.tmp 4]) (vs := [_]) rfl rfl ⟨rfl, trivial⟩ ?_
  -- end 1
  exact ⟨rfl, S⟩
end Go.Proofs.YtbjmllnddanniaaGreat
set_option linter.unusedVariables false
set_option linter.unusedSimpArgs false
namespace Go.Proofs.YtbjmllnddanniaaGreat
open Go Go.XL
theorem c_push {σ : Type} (l : Nat) (H : σ → Bool → (Nat → Prop) → World → Prop) (step : σ → It → σ × Bool) (cnt : σ → Nat) (N : Nat) (hc : ∀ s x, cnt (step s x).1 ≤ cnt s + 1) (hT : YT Tryz.prog l It.val It.ok cnt N H step)
    (A : Ar) (na fa : Option Addr) (nc fc : Nat) (r : Int) (L : List It) (hL : IsT A r L) : ∀ (s : σ) (C M : Nat → Prop) (w : World), U64 r → cnt s + L.length ≤ N → Ft M (fun u => ArR u na fa A) w → (∀ k, M k → ¬ C k) → Ft C (H s true C) w →
    FC Tryz.prog 166 [arV na fa nc fc A, .int .u64 r, .func (.yield l) #[] #[]] w (fun v w' => ∃ C', v = .bool (pushF step s L).2 ∧ Ft C' (H (pushF step s L).1 (pushF step s L).2 C') w' ∧ Agr C w w' ∧ Up C w C') := by
  induction hL with
  | nil =>
    intro s C M w hr hN hA hMC hH
    refine FC.introY Tryz.func166 rfl Tryz.ntmps166 rfl ?_
    have G : Agr C w w := Agr.refl _ _
    refine RC.seq ?_
    refine RC.region rfl ?_
    refine RL.box rfl rfl rfl (fun b_3 w_3 e_3 z_3 hb_3 s_3 => ?_)
    have d_hH_b_3 := hH.neNew e_3
    have geG_3 := agLe G e_3
    have G := G.trans s_3.agr
    have hH := hH.sub s_3
    have hb_3 : Has w_3 b_3 ([.slice na A.nodes.length nc, .slice fa A.free.length fc]) _ := hb_3
    refine RL.ev (.assign rfl) rfl rfl ?_
    refine RL.nil (RC.back ?_)
    refine RC.seq ?_
    refine RC.seq ?_
    refine RC.region rfl ?_
    refine RL.ev (.move rfl) rfl rfl ?_
    refine RL.ev (.bin rfl rfl rfl) rfl rfl ?_
    refine RL.nil (RC.back ?_)
    refine RC.cond_dec rfl (fun h1 => ?_) (fun h1 => ?_)
    ·
      refine RC.seq ?_
      refine RC.region rfl ?_
      refine RL.ev (.assign rfl) rfl rfl ?_
      refine RL.nil (RC.back ?_)
      refine RC.done (rs := [.tmp 6]) (vs := [_]) rfl rfl ⟨rfl, trivial⟩ ?_
      -- end 1
      exact ⟨C, rfl, hH, G, Up.refl _ _⟩
    ·
      exact absurd rfl h1
  | @node r g a b it L R h1 h2 h3 h4 h5 ih1 ih2 =>
    intro s C M w hr hN hA hMC hH
    obtain ⟨x, hx, hxi, hxa, hxb⟩ : ∃ x, getA A r = some x ∧ (⟨x.n, x.v⟩ : It) = it ∧ x.k0 = a ∧ x.k1 = b := ⟨_, h1, rfl, rfl, rfl⟩
    have hxo := hA.now.nok x (getA_nok hx)
    have hr0 : ¬ r = 0 := fun e => by rw [e, getA_0] at hx; cases hx
    have hCw : ∀ k, C k → k < w.heap.size := hH.lt
    clear h1
    rw [List.length_append, List.length_cons] at hN
    have hN1 := pushF_cnt hc L s
    have hN2 := hc (pushF step s L).1 it
    subst hxi hxa hxb
    refine FC.introY Tryz.func166 rfl Tryz.ntmps166 rfl ?_
    have G : Agr C w w := Agr.refl _ _
    refine RC.seq ?_
    refine RC.region rfl ?_
    refine RL.box rfl rfl rfl (fun b_3 w_3 e_3 z_3 hb_3 s_3 => ?_)
    have d_hA_b_3 := hA.neNew e_3
    have d_hH_b_3 := hH.neNew e_3
    have geG_3 := agLe G e_3
    have G := G.trans s_3.agr
    have hA := hA.sub s_3
    have hH := hH.sub s_3
    have hb_3 : Has w_3 b_3 ([.slice na A.nodes.length nc, .slice fa A.free.length fc]) _ := hb_3
    refine RL.ev (.assign rfl) rfl rfl ?_
    refine RL.nil (RC.back ?_)
    refine RC.seq ?_
    refine RC.seq ?_
    refine RC.region rfl ?_
    refine RL.ev (.move rfl) rfl rfl ?_
    refine RL.ev (.bin rfl rfl rfl) rfl rfl ?_
    refine RL.nil (RC.back ?_)
    refine RC.cond_dec rfl (fun h1 => ?_) (fun h1 => ?_)
    ·
      exact absurd h1 hr0
    ·
      refine RC.skip (RC.back ?_)
      refine RC.seq ?_
      refine RC.region rfl ?_
      refine RL.ev (.loadR ([.slice na A.nodes.length nc, .slice fa A.free.length fc]) sh26 rfl hb_3.row rfl) rfl rfl ?_
      refine RL.ev (.move rfl) rfl rfl ?_
      refine RL.call rfl ok125 (c_aGet A na fa nc fc r hr w_3 hA.now) rfl rfl ?_
      rintro _ w2 ⟨rfl, s3⟩
      have G := G.trans s3.agr
      have hA := hA.sub s3
      have hH := hH.sub s3
      have hb_3 := hb_3.sub s3
      refine RL.ev (.as (v' := .tuple #[x.val, .int .i64 0]) (.move rfl) (by rw [getV_yes hx])) rfl rfl ?_
      refine RL.ev (.extract rfl rfl) rfl rfl ?_
      refine RL.ev (.extract rfl rfl) rfl rfl ?_
      refine RL.alloc ze140 rfl rfl (fun b_7 w_7 e_7 z_7 hb_7 s_7 => ?_)
      have n_3__7 := hb_3.ne e_7
      have d_hA_b_7 := hA.neNew e_7
      have d_hH_b_7 := hH.neNew e_7
      have geG_7 := agLe G e_7
      have G := G.trans s_7.agr
      have hA := hA.sub s_7
      have hH := hH.sub s_7
      have hb_3 := hb_3.sub s_7
      refine RL.store sh140 rfl rfl rfl hb_7 (by exact Nat.le_of_ble_eq_true rfl) (by rfl) rfl (fun w4 z4 hb_7 a4 => ?_)
      have G := agNew G a4 geG_7
      have hA := hA.updD a4 d_hA_b_7
      have hH := hH.updD a4 d_hH_b_7
      have hb_3 := hb_3.upd a4 n_3__7
      have hb_7 : Has w4 b_7 (x.cells) _ := hb_7.now (by kernel_rfl)
      refine RL.ev (.assign rfl) rfl rfl ?_
      refine RL.nil (RC.back ?_)
      refine RC.seq ?_
      refine RC.region rfl ?_
      refine RL.ev (.loadR ([.slice na A.nodes.length nc, .slice fa A.free.length fc]) sh26 rfl hb_3.row rfl) rfl rfl ?_
      refine RL.ev (.field0 fo140_5 rfl) rfl rfl ?_
      refine RL.ev (.indexArr ar138 rfl rfl (by omega)) rfl rfl ?_
      refine RL.ev (.load1 sh31 rfl (hb_7.cell rfl)) rfl rfl ?_
      refine RL.ev (.move rfl) rfl rfl ?_
      refine RL.call rfl ok166 (ih1 s C M w4 (hxo.kids _ (by simp [Node.kids])) (by omega) hA hMC hH) rfl rfl ?_
      rintro _ w5 ⟨C1, rfl, hH1, ag, up⟩
      have hG3 := geG_3
      have hG7 := geG_7
      have nb3 : ¬ C1 b_3 := up.not hb_3.lt (fun e => by have := hCw _ e; omega)
      have nb7 : ¬ C1 b_7 := up.not hb_7.lt (fun e => by have := hCw _ e; omega)
      have hMC1 : ∀ k, M k → ¬ C1 k := fun k hk => up.not (hA.lt k hk) (hMC k hk)
      have hb_3 := hb_3.step ag (fun e => by have := hCw _ e; omega)
      have hb_7 := hb_7.step ag (fun e => by have := hCw _ e; omega)
      have up := up.le G.size
      have G := G.trans ag
      have hA := hA.step ag hMC
      have hH := hH1
      refine RL.ev (.move rfl) rfl rfl ?_
      refine RL.splitB 23 rfl (fun h7 => ?_) (fun h7 => ?_)
      ·
        have q1 := h7
        rw [q1] at hH
        refine RL.ev (.move rfl) rfl rfl ?_
        refine RL.ev (.field0 fo140_2 rfl) rfl rfl ?_
        refine RL.ev (.load1 sh2 rfl (hb_7.cell rfl)) rfl rfl ?_
        refine RL.ev (.field0 fo140_3 rfl) rfl rfl ?_
        refine RL.ev (.load1 sh2 rfl (hb_7.cell rfl)) rfl rfl ?_
        refine RL.ev (.as (v' := (⟨x.n, x.v⟩ : It).val) (.buildS ze51 pl51 rfl rfl) (by rfl)) rfl rfl ?_
        refine RL.yield rfl rfl (hT (pushF step s L).1 ⟨x.n, x.v⟩ C1 w5 ⟨hxo.n, hxo.v⟩ (by omega) hH) rfl rfl ?_
        rintro _ w8 ⟨C2, rfl, hH2, ag2, up2⟩
        have nb3' : ¬ C2 b_3 := up2.not hb_3.lt nb3
        have nb7' : ¬ C2 b_7 := up2.not hb_7.lt nb7
        have hMC2 : ∀ k, M k → ¬ C2 k := fun k hk => up2.not (hA.lt k hk) (hMC1 k hk)
        have hb_3 := hb_3.step ag2 nb3
        have hb_7 := hb_7.step ag2 nb7
        have up2 := up.trans (up2.le G.size)
        have G := G.up up ag2
        have hA := hA.step ag2 hMC1
        have hH := hH2
        refine RL.ev (.pick_t rfl rfl) rfl rfl ?_
        refine RL.ev (.move rfl) rfl rfl ?_
        refine RL.splitB 32 rfl (fun h10 => ?_) (fun h10 => ?_)
        ·
          have q2 := h10
          rw [q2] at hH
          refine RL.ev (.loadR ([.slice na A.nodes.length nc, .slice fa A.free.length fc]) sh26 rfl hb_3.row rfl) rfl rfl ?_
          refine RL.ev (.field0 fo140_5 rfl) rfl rfl ?_
          refine RL.ev (.indexArr ar138 rfl rfl (by omega)) rfl rfl ?_
          refine RL.ev (.load1 sh31 rfl (hb_7.cell rfl)) rfl rfl ?_
          refine RL.ev (.move rfl) rfl rfl ?_
          refine RL.call rfl ok166 (ih2 _ C2 M w8 (hxo.kids _ (by simp [Node.kids])) (by omega) hA hMC2 hH) rfl rfl ?_
          rintro _ w11 ⟨C3, rfl, hH3, ag3, up3⟩
          have up3 := up2.trans (up3.le G.size)
          have G := G.up up2 ag3
          refine RL.ev (.pick_t rfl rfl) rfl rfl ?_
          refine RL.ev (.assign rfl) rfl rfl ?_
          refine RL.nil (RC.back ?_)
          refine RC.done (rs := [.tmp 6]) (vs := [_]) rfl rfl ⟨rfl, trivial⟩ ?_
          -- end 1
          rw [pushF_app q1, pushF_t q2]
          exact ⟨C3, rfl, hH3, G, up3⟩
        ·
          have q2 := h10
          refine RL.off rfl rfl ?_
          refine RL.off rfl rfl ?_
          refine RL.off rfl rfl ?_
          refine RL.off rfl rfl ?_
          refine RL.off rfl rfl ?_
          refine RL.off rfl rfl ?_
          refine RL.ev (.pick_f rfl rfl) rfl rfl ?_
          refine RL.ev (.assign rfl) rfl rfl ?_
          refine RL.nil (RC.back ?_)
          refine RC.done (rs := [.tmp 6]) (vs := [_]) rfl rfl ⟨rfl, trivial⟩ ?_
          -- end 2
          rw [q2] at hH
          rw [pushF_app q1, pushF_f q2]
          exact ⟨C2, rfl, hH, G, up2⟩
      ·
        have q1 := h7
        refine RL.off rfl rfl ?_
        refine RL.off rfl rfl ?_
        refine RL.off rfl rfl ?_
        refine RL.off rfl rfl ?_
        refine RL.off rfl rfl ?_
        refine RL.off rfl rfl ?_
        refine RL.off rfl rfl ?_
        refine RL.ev (.pick_f rfl rfl) rfl rfl ?_
        refine RL.ev (.move rfl) rfl rfl ?_
        refine RL.off rfl rfl ?_
        refine RL.off rfl rfl ?_
        refine RL.off rfl rfl ?_
        refine RL.off rfl rfl ?_
        refine RL.off rfl rfl ?_
        refine RL.off rfl rfl ?_
        refine RL.ev (.pick_f rfl rfl) rfl rfl ?_
        refine RL.ev (.assign rfl) rfl rfl ?_
        refine RL.nil (RC.back ?_)
        refine RC.done (rs := [.tmp 6]) (vs := [_]) rfl rfl ⟨rfl, trivial⟩ ?_
        -- end 3
        rw [pushF_l q1]
        exact ⟨C1, by rw [q1]; rfl, hH, G, up⟩
theorem c_items1 {σ : Type} (l : Nat) (H : σ → Bool → (Nat → Prop) → World → Prop) (step : σ → It → σ × Bool) (cnt : σ → Nat) (N : Nat) (hc : ∀ s x, cnt (step s x).1 ≤ cnt s + 1) (hT : YT Tryz.prog l It.val It.ok cnt N H step)
    (A : Ar) (na fa : Option Addr) (nc fc : Nat) (r : Int) (L : List It) (hL : IsT A r L) (s : σ) (C M : Nat → Prop) (b2 b3 : Nat) (w : World) (hr : U64 r) (hN : cnt s + L.length ≤ N) (hA : Ft M (fun u => ArR u na fa A) w) (hMC : ∀ k, M k → ¬ C k) (hH : Ft C (H s true C) w)
    (h2 : Has w b2 [.slice na A.nodes.length nc, .slice fa A.free.length fc] 26) (h3 : Has w b3 [.int .u64 r] 31) :
    FC Tryz.prog 165 [.func (.yield l) #[] #[], .pointer (some ⟨b2, 0, none⟩), .pointer (some ⟨b3, 0, none⟩)] w (fun _ w' => ∃ C', Ft C' (H (pushF step s L).1 (pushF step s L).2 C') w' ∧ Agr C w w' ∧ Up C w C') := by
  refine FC.intro Tryz.func165 rfl Tryz.ntmps165 rfl ?_
  refine RC.region rfl ?_
  refine RL.ev (.loadR ([.slice na A.nodes.length nc, .slice fa A.free.length fc]) sh26 rfl h2.row rfl) rfl rfl ?_
  refine RL.ev (.load1 sh31 rfl (h3.cell rfl)) rfl rfl ?_
  refine RL.ev (.move rfl) rfl rfl ?_
  refine RL.call rfl ok166 (c_push l H step cnt N hc hT A na fa nc fc r L hL s C M w hr hN hA hMC hH) rfl rfl ?_
  rintro _ w1 ⟨C1, rfl, hH1, ag, up⟩
  refine RL.nil ?_
  refine fun a ka => ⟨ka.defers, _, run_results (rs := []) (vs := []) ka rfl trivial, ?_⟩
  -- end 1
  exact ⟨C1, hH1, ag, up⟩
theorem c_items (A : Ar) (na fa : Option Addr) (nc fc : Nat) (r : Int) (w : World) :
    FC Tryz.prog 96 [arV na fa nc fc A, .int .u64 r] w (fun v w' => ∃ b2 b3, v = .func (.func 165) #[] #[.pointer (some ⟨b2, 0, none⟩), .pointer (some ⟨b3, 0, none⟩)] ∧ Has w' b2 [.slice na A.nodes.length nc, .slice fa A.free.length fc] 26 ∧ Has w' b3 [.int .u64 r] 31 ∧ Sub w w') := by
  refine FC.intro Tryz.func96 rfl Tryz.ntmps96 rfl ?_
  have S := Sub.refl w
  refine RC.seq ?_
  refine RC.region rfl ?_
  refine RL.box rfl rfl rfl (fun b_2 w_2 e_2 z_2 hb_2 s_2 => ?_)
  have ge_2 := S.le e_2
  have S := S.trans s_2
  have hb_2 : Has w_2 b_2 ([.slice na A.nodes.length nc, .slice fa A.free.length fc]) _ := hb_2
  refine RL.box rfl rfl rfl (fun b_3 w_3 e_3 z_3 hb_3 s_3 => ?_)
  have ge_3 := S.le e_3
  have n_2__3 := hb_2.ne e_3
  have S := S.trans s_3
  have hb_2 := hb_2.sub s_3
  refine RL.ev (.assign rfl) rfl rfl ?_
  refine RL.nil (RC.back ?_)
  refine RC.seq ?_
  refine RC.region rfl ?_
  refine RL.ev (.func (xs := []) (ys := [_, _]) rfl rfl) rfl rfl ?_
  refine RL.ev (.assign rfl) rfl rfl ?_
  refine RL.nil (RC.back ?_)
  refine RC.done (rs := [.tmp 4]) (vs := [_]) rfl rfl ⟨rfl, trivial⟩ ?_
  -- end 1
  exact ⟨b_2, b_3, rfl, hb_2, hb_3, S⟩
def inR (low high : Int) (l : List It) : List It := l.filter fun x => decide (low ≤ x.k ∧ x.k ≤ high)
def stAll (low high : Int) (s : List It) (x : It) : List It × Bool := if x.k > high then (s, false) else if low ≤ x.k then (s ++ [x], true) else (s, true)
theorem stAll_cnt (low high : Int) (s : List It) (x : It) : (stAll low high s x).1.length ≤ s.length + 1 := by
  unfold stAll
  split
  · simp
  · split <;> simp
theorem push_all {low high : Int} : ∀ {l : List It}, Srt l → ∀ s, (pushF (stAll low high) s l).1 = s ++ inR low high l
  | [], _, s => by simp [pushF, inR]
  | x :: l, h, s => by
    have h2 := List.pairwise_cons.1 h
    rw [pushF]
    by_cases q : x.k > high
    · have e : stAll low high s x = (s, false) := if_pos q
      rw [e]
      have : inR low high (x :: l) = [] := by
        unfold inR
        rw [List.filter_eq_nil_iff]
        intro y hy
        rcases List.mem_cons.1 hy with rfl | hy
        · simp; omega
        · have := h2.1 y hy; simp; omega
      simp [this]
    · by_cases q2 : low ≤ x.k
      · have e : stAll low high s x = (s ++ [x], true) := by rw [stAll, if_neg q, if_pos q2]
        rw [e, if_pos rfl, push_all h2.2]
        have : inR low high (x :: l) = x :: inR low high l := by
          unfold inR; rw [List.filter_cons, if_pos (by simp; omega)]
        rw [this]; simp
      · have e : stAll low high s x = (s, true) := by rw [stAll, if_neg q, if_neg q2]
        rw [e, if_pos rfl, push_all h2.2]
        have : inR low high (x :: l) = inR low high l := by
          unfold inR; rw [List.filter_cons, if_neg (by simp; omega)]
        rw [this]
/-- how the boxes of All stand between two rounds -/
def HAll (l : Nat) (rL : Loop) (b6 b7 b10 base : Nat) (low high : Int) (rows : List It) (b : Bool) (C : Nat → Prop) (W : World) : Prop :=
  ∃ v, (Lp l (recB rL 0 b) W ∧ Has W b6 [.int .i64 low] 2 ∧ Has W b7 [.int .i64 high] 2 ∧ Has W b10 [v] 42 ∧ Ows base W 51 2 v (rows.map It.cells)) ∧ (∀ k, ob v = some k → k ≠ l ∧ k ≠ b6 ∧ k ≠ b7 ∧ k ≠ b10) ∧ ∀ k, C k ↔ (k = l ∨ k = b10 ∨ ob v = some k) ∨ (k = b6 ∨ k = b7)
theorem HAll.ft {l : Nat} {rL : Loop} {b6 b7 b10 base : Nat} {low high : Int} {rows : List It} {b : Bool} {C : Nat → Prop} {W : World} {v : Value} (hC : ∀ k, C k ↔ (k = l ∨ k = b10 ∨ ob v = some k) ∨ (k = b6 ∨ k = b7))
    (h1 : Lp l (recB rL 0 b) W) (h2 : Has W b6 [.int .i64 low] 2) (h3 : Has W b7 [.int .i64 high] 2) (h4 : Has W b10 [v] 42) (h5 : Ows base W 51 2 v (rows.map It.cells)) (hob : ∀ k, ob v = some k → k ≠ l ∧ k ≠ b6 ∧ k ≠ b7 ∧ k ≠ b10) :
    Ft C (HAll l rL b6 b7 b10 base low high rows b C) W := by
  refine ⟨fun k hk => ?_, fun u a => ⟨v, ⟨h1.step a (fun hn => hn ((hC _).2 (.inl (.inl rfl)))), h2.step a (fun hn => hn ((hC _).2 (.inr (.inl rfl)))), h3.step a (fun hn => hn ((hC _).2 (.inr (.inr rfl)))), h4.step a (fun hn => hn ((hC _).2 (.inl (.inr (.inl rfl))))), h5.step a (fun k hk hn => hn ((hC k).2 (.inl (.inr (.inr hk)))))⟩, hob, hC⟩⟩
  rcases (hC k).1 hk with (rfl | rfl | h) | (rfl | rfl)
  · exact h1.lt
  · exact h4.lt
  · exact (h5.ge k h).2
  · exact h2.lt
  · exact h3.lt
theorem c_all (A : Ar) (na fa : Option Addr) (nc fc : Nat) (r : Int) (hr : U64 r) (low high : Int) (w : World) (hA : ArR w na fa A) :
    FC Tryz.prog 43 [arV na fa nc fc A, .int .u64 r, .int .i64 low, .int .i64 high] w (fun v w' => Sub w w' ∧ ∃ a c rows e, v = .tuple #[.slice a (rows.map It.cells).length c, .int .i64 e] ∧ Ows w.heap.size w' 51 2 (.slice a (rows.map It.cells).length c) (rows.map It.cells) ∧ (¬ isMap A r → e = 1) ∧ ∀ L, isMap A r → IsT A r L → rows = inR low high L ∧ e = 0) := by
  refine FC.introM Tryz.func43 rfl Tryz.ntmps43 rfl ?_
  have S := Sub.refl w
  refine RC.seq ?_
  refine RC.region rfl ?_
  refine RL.box rfl rfl rfl (fun b_4 w_4 e_4 z_4 hb_4 s_4 => ?_)
  have ge_4 := S.le e_4
  have S := S.trans s_4
  have hb_4 : Has w_4 b_4 ([.slice na A.nodes.length nc, .slice fa A.free.length fc]) _ := hb_4
  refine RL.box rfl rfl rfl (fun b_6 w_6 e_6 z_6 hb_6 s_6 => ?_)
  have ge_6 := S.le e_6
  have n_4__6 := hb_4.ne e_6
  have S := S.trans s_6
  have hb_4 := hb_4.sub s_6
  refine RL.box rfl rfl rfl (fun b_7 w_7 e_7 z_7 hb_7 s_7 => ?_)
  have ge_7 := S.le e_7
  have n_4__7 := hb_4.ne e_7
  have n_6__7 := hb_6.ne e_7
  have S := S.trans s_7
  have hb_4 := hb_4.sub s_7
  have hb_6 := hb_6.sub s_7
  refine RL.ev (.assign rfl) rfl rfl ?_
  refine RL.ev (.assign rfl) rfl rfl ?_
  refine RL.nil (RC.back ?_)
  refine RC.seq ?_
  refine RC.seq ?_
  refine RC.region rfl ?_
  refine RL.ev (.loadR ([.slice na A.nodes.length nc, .slice fa A.free.length fc]) sh26 rfl hb_4.row rfl) rfl rfl ?_
  refine RL.ev (.move rfl) rfl rfl ?_
  refine RL.call rfl ok54 (c_tRight A na fa nc fc r hr w_7 (hA.sub S)) rfl rfl ?_
  rintro _ w1 ⟨rfl, s2⟩
  have S := S.trans s2
  have hb_4 := hb_4.sub s2
  have hb_6 := hb_6.sub s2
  have hb_7 := hb_7.sub s2
  refine RL.ev (.not rfl) rfl rfl ?_
  refine RL.nil (RC.back ?_)
  refine RC.cond rfl (fun h3 => ?_) (fun h3 => ?_)
  ·
    have hno : ¬ isMap A r := (fun h => by have h2 := h3; rw [isMapB_yes h] at h2; cases h2)
    refine RC.seq ?_
    refine RC.region rfl ?_
    refine RL.ev (.assign rfl) rfl rfl ?_
    refine RL.ev (.assign rfl) rfl rfl ?_
    refine RL.nil (RC.back ?_)
    refine RC.doneM0 (rs := [.tmp 8, .tmp 9]) (vs := [_, _]) rfl rfl ⟨rfl, rfl, trivial⟩ ?_
    -- end 1
    exact ⟨S, none, 0, [], 1, rfl, Ows.nil _ _ _ _, fun _ => rfl, fun L hm _ => absurd hm hno⟩
  ·
    have hmb : isMapB A r = true := (by simpa using h3)
    have hmap : isMap A r := (isMapB_iff A r).1 (by simpa using h3)
    obtain ⟨_, L, hT, hL2⟩ := id hmap
    have hsrt := hT.srt
    refine RC.skip (RC.back ?_)
    refine RC.seq ?_
    refine RC.region rfl ?_
    refine RL.alloc ze42 rfl rfl (fun b_10 w_10 e_10 z_10 hb_10 s_10 => ?_)
    have ge_10 := S.le e_10
    have n_4__10 := hb_4.ne e_10
    have n_6__10 := hb_6.ne e_10
    have n_7__10 := hb_7.ne e_10
    have S := S.trans s_10
    have hb_4 := hb_4.sub s_10
    have hb_6 := hb_6.sub s_10
    have hb_7 := hb_7.sub s_10
    refine RL.nil (RC.back ?_)
    refine RC.seq ?_
    refine RC.seq ?_
    refine RC.region rfl ?_
    refine RL.ev (.loadR ([.slice na A.nodes.length nc, .slice fa A.free.length fc]) sh26 rfl hb_4.row rfl) rfl rfl ?_
    refine RL.ev (.move rfl) rfl rfl ?_
    refine RL.call rfl ok96 (c_items A na fa nc fc r w_10) rfl rfl ?_
    rintro _ w4 ⟨bA, bR, rfl, hbA, hbR, s5⟩
    have S := S.trans s5
    have hb_4 := hb_4.sub s5
    have hb_6 := hb_6.sub s5
    have hb_7 := hb_7.sub s5
    have hb_10 := hb_10.sub s5
    refine RL.nil (RC.back ?_)
    refine RC.range (cs := [_, _]) rfl ok165 ?_
    intro rL W1 hst hpe hps hasg hbd hk1 s1 z1 hL hD
    obtain ⟨b_D, eD⟩ : ∃ D, D = w4.heap.size := ⟨_, rfl⟩
    rw [← eD] at hk1 z1 hL hD ⊢
    obtain ⟨b_l, el⟩ : ∃ l, l = b_D + 1 := ⟨_, rfl⟩
    rw [← el] at hk1 hL ⊢
    have n_D_l : b_D ≠ b_l := by omega
    have ge_D : _ ≤ b_D := Nat.le_trans S.size (by omega)
    have ge_l : _ ≤ b_l := Nat.le_trans S.size (by omega)
    have nb_4_b_D : b_4 ≠ b_D := fun e => by have := hb_4.lt; omega
    have nb_4_b_l : b_4 ≠ b_l := fun e => by have := hb_4.lt; omega
    have nb_6_b_D : b_6 ≠ b_D := fun e => by have := hb_6.lt; omega
    have nb_6_b_l : b_6 ≠ b_l := fun e => by have := hb_6.lt; omega
    have nb_7_b_D : b_7 ≠ b_D := fun e => by have := hb_7.lt; omega
    have nb_7_b_l : b_7 ≠ b_l := fun e => by have := hb_7.lt; omega
    have nb_10_b_D : b_10 ≠ b_D := fun e => by have := hb_10.lt; omega
    have nb_10_b_l : b_10 ≠ b_l := fun e => by have := hb_10.lt; omega
    have S := S.trans s1
    have hb_4 := hb_4.sub s1
    have hb_6 := hb_6.sub s1
    have hb_7 := hb_7.sub s1
    have hb_10 := hb_10.sub s1
    rw [recB_0 (id := 0) hst hpe] at hL
    have hY : YT Tryz.prog b_l It.val It.ok List.length 200 (HAll b_l rL b_6 b_7 b_10 w.heap.size low high) (stAll low high) := by
      intro s x C W hx hcn hH
      obtain ⟨v, ⟨hL, hb_6, hb_7, hb_10, o⟩, hob, hC⟩ := hH.now
      have szB : w.heap.size ≤ W.heap.size := (by have := hL.lt; omega)
      have G : Agr (fun k => k = b_l ∨ k = b_10 ∨ ob v = some k) W W := Agr.refl _ _
      refine FY.intro (m := 33) (F := upd _ (some 19) x.val) [0] hL rfl (by show 1 = rL.params.size; rw [hps]; rfl) (knows1 hps hk1 rfl) ?_
      show RC _ _ rL.assign _ _ _
      rw [hasg]
      refine RC.region rfl ?_
      refine RL.alloc ze51 rfl rfl (fun b_11 w_11 e_11 z_11 hb_11 s_11 => ?_)
      have n_l__11 := hL.ne e_11
      have n_6__11 := hb_6.ne e_11
      have n_7__11 := hb_7.ne e_11
      have n_10__11 := hb_10.ne e_11
      have d_o_b_11 := o.neNew e_11
      have hL := hL.sub s_11
      have hb_6 := hb_6.sub s_11
      have hb_7 := hb_7.sub s_11
      have hb_10 := hb_10.sub s_11
      have o := o.sub s_11
      have geG_11 := agLe G e_11
      have G := G.trans s_11.agr
      have szB := Nat.le_trans szB s_11.size
      refine RL.store sh51 rfl rfl rfl hb_11 (by exact Nat.le_of_ble_eq_true rfl) (by rfl) rfl (fun w6 z6 hb_11 a6 => ?_)
      have hL := hL.upd a6 n_l__11
      have hb_6 := hb_6.upd a6 n_6__11
      have hb_7 := hb_7.upd a6 n_7__11
      have hb_10 := hb_10.upd a6 n_10__11
      have o := o.updD a6 d_o_b_11
      have G := agNew G a6 geG_11
      have szB := Nat.le_trans szB a6.size
      have hb_11 : Has w6 b_11 (x.cells) _ := hb_11.now (by kernel_rfl)
      refine RL.nil (RC.begin hL ?_)
      intro w7 a7 z7 hL
      have hb_6 := hb_6.step a7 (fun e => nb_6_b_l e)
      have hb_7 := hb_7.step a7 (fun e => nb_7_b_l e)
      have hb_10 := hb_10.step a7 (fun e => nb_10_b_l e)
      have o := o.step a7 (fun k hk e => (fun k hk => (hob k hk).1) k hk e)
      have G := G.trans (a7.mono fun k _ e => .inl e)
      have szB := Nat.le_trans szB a7.size
      have hb_11 := hb_11.step a7 (fun e => n_l__11.symm e)
      show RC _ _ rL.body _ _ _
      rw [hbd]
      refine RC.block ?_
      refine RC.seq ?_
      refine RC.seq ?_
      refine RC.region rfl ?_
      refine RL.ev (.field0 fo51_0 rfl) rfl rfl ?_
      refine RL.ev (.load1 sh2 rfl (hb_11.cell rfl)) rfl rfl ?_
      refine RL.ev (.load1 sh2 rfl (hb_7.cell rfl)) rfl rfl ?_
      refine RL.ev (.bin rfl rfl rfl) rfl rfl ?_
      refine RL.nil (RC.back ?_)
      refine RC.cond_dec rfl (fun h8 => ?_) (fun h8 => ?_)
      ·
        have q1 := h8
        refine RC.exit rfl (RC.endr (j := some (.exit 0)) hL ?_)
        intro w9 a9 z9 hL
        have hb_6 := hb_6.step a9 (fun e => nb_6_b_l e)
        have hb_7 := hb_7.step a9 (fun e => nb_7_b_l e)
        have hb_10 := hb_10.step a9 (fun e => nb_10_b_l e)
        have o := o.step a9 (fun k hk e => (fun k hk => (hob k hk).1) k hk e)
        have G := G.trans (a9.mono fun k _ e => .inl e)
        have szB := Nat.le_trans szB a9.size
        have hb_11 := hb_11.step a9 (fun e => n_l__11.symm e)
        -- round end 1
        rw [show stAll low high s x = (s, false) from if_pos q1]
        exact ⟨C, rfl, HAll.ft hC hL hb_6 hb_7 hb_10 o hob, G.mono fun k _ e => (hC k).2 (.inl e), Up.refl _ _⟩
      ·
        have q1 := h8
        refine RC.skip (RC.back ?_)
        refine RC.seq ?_
        refine RC.region rfl ?_
        refine RL.ev (.field0 fo51_0 rfl) rfl rfl ?_
        refine RL.ev (.load1 sh2 rfl (hb_11.cell rfl)) rfl rfl ?_
        refine RL.ev (.load1 sh2 rfl (hb_6.cell rfl)) rfl rfl ?_
        refine RL.ev (.bin rfl rfl rfl) rfl rfl ?_
        refine RL.nil (RC.back ?_)
        refine RC.cond_dec rfl (fun h10 => ?_) (fun h10 => ?_)
        ·
          have q2 := h10
          refine RC.region rfl ?_
          refine RL.ev (.load1 sh42 rfl (hb_10.cell rfl)) rfl rfl ?_
          refine RL.ev (.loadR (x.cells) sh51 rfl hb_11.row rfl) rfl rfl ?_
          refine RL.buildSlice1 sl42 _ ze51 rfl rfl rfl rfl rfl rfl rfl (fun b_30 w_30 e_30 z_30 hb_30 s_30 => ?_)
          have n_6__30 := hb_6.ne e_30
          have n_7__30 := hb_7.ne e_30
          have n_10__30 := hb_10.ne e_30
          have n_11__30 := hb_11.ne e_30
          have n_l__30 := hL.ne e_30
          have d_o_b_30 := o.neNew e_30
          have hb_6 := hb_6.sub s_30
          have hb_7 := hb_7.sub s_30
          have hb_10 := hb_10.sub s_30
          have o := o.sub s_30
          have geG_30 := agLe G e_30
          have G := G.trans s_30.agr
          have szB := Nat.le_trans szB s_30.size
          have hb_11 := hb_11.sub s_30
          have hL := hL.sub s_30
          have ltb_6_31 := hb_6.lt
          have ltb_7_31 := hb_7.lt
          have ltb_10_31 := hb_10.lt
          have szG_31 := G.size
          have ltb_11_31 := hb_11.lt
          have ltb_l_31 := hL.lt
          have ltb_30_31 := hb_30.lt
          refine RL.append2 (base := w.heap.size) (rows := s.map It.cells) (news := [_]) sl42 ze51 rfl rfl rfl rfl (.inl o) (Has.slOne hb_30) rfl (by intro r hr; rw [List.mem_singleton] at hr; subst hr; rfl) rfl (by (try simp only [List.length_map, List.length_nil, List.length_append, List.length_cons]); omega) (by (try simp only [List.length_map, List.length_nil, List.length_append, List.length_cons]); omega) (by omega) rfl rfl (fun v_31 w_31 hc_31 ho_31 ag_31 ob_31 => ?_)
          have o31 := ho_31 (.inl (by simp))
          rw [show _ ++ [_] = ((s ++ [x]).map It.cells) from by rw [List.map_append]; rfl] at o31
          have d_o31_b_6 := obNe ob_31 (fun k hk => (hob k hk).2.1) hb_6.lt
          have d_o31_b_7 := obNe ob_31 (fun k hk => (hob k hk).2.2.1) hb_7.lt
          have d_o31_b_10 := obNe ob_31 (fun k hk => (hob k hk).2.2.2) hb_10.lt
          have d_o31_b_11 := obNe ob_31 d_o_b_11 hb_11.lt
          have d_o31_b_l := obNe ob_31 (fun k hk => (hob k hk).1) hL.lt
          have hb_6 := hb_6.step ag_31 (fun e => (fun k hk => (hob k hk).2.1) _ e.1 rfl)
          have hb_7 := hb_7.step ag_31 (fun e => (fun k hk => (hob k hk).2.2.1) _ e.1 rfl)
          have hb_10 := hb_10.step ag_31 (fun e => (fun k hk => (hob k hk).2.2.2) _ e.1 rfl)
          have G := G.trans (ag_31.mono fun k _ e => .inr (.inr e.1))
          have szB := Nat.le_trans szB ag_31.size
          have hb_11 := hb_11.step ag_31 (fun e => d_o_b_11 _ e.1 rfl)
          have hL := hL.step ag_31 (fun e => (fun k hk => (hob k hk).1) _ e.1 rfl)
          obtain ⟨a_31, c_31, rfl, k_31⟩ := o31.form
          refine RL.store sh42 rfl rfl rfl hb_10 (by exact Nat.le_of_ble_eq_true rfl) (by rfl) rfl (fun w11 z11 hb_10 a11 => ?_)
          have hb_6 := hb_6.upd a11 n_6__10
          have hb_7 := hb_7.upd a11 n_7__10
          have G := G.trans (a11.mono fun k _ e => .inr (.inl e))
          have szB := Nat.le_trans szB a11.size
          have hb_11 := hb_11.upd a11 n_10__11.symm
          have hL := hL.upd a11 nb_10_b_l.symm
          have o31 := o31.updD a11 d_o31_b_10
          refine RL.nil (RC.endr (j := none) hL ?_)
          intro w12 a12 z12 hL
          have hb_6 := hb_6.step a12 (fun e => nb_6_b_l e)
          have hb_7 := hb_7.step a12 (fun e => nb_7_b_l e)
          have hb_10 := hb_10.step a12 (fun e => nb_10_b_l e)
          have G := G.trans (a12.mono fun k _ e => .inl e)
          have szB := Nat.le_trans szB a12.size
          have hb_11 := hb_11.step a12 (fun e => n_l__11.symm e)
          have o31 := o31.step a12 (fun k hk e => d_o31_b_l k hk e)
          -- round end 2
          rw [show stAll low high s x = (s ++ [x], true) from by rw [stAll, if_neg q1, if_pos q2]]
          refine ⟨_, rfl, HAll.ft (fun _ => Iff.rfl) hL hb_6 hb_7 hb_10 o31 (fun k hk => ⟨d_o31_b_l k hk, d_o31_b_6 k hk, d_o31_b_7 k hk, d_o31_b_10 k hk⟩), G.mono fun k _ e => (hC k).2 (.inl e), fun k hk => ?_⟩
          rcases hk with (e | e | e) | e
          · exact .inl ((hC k).2 (.inl (.inl e)))
          · exact .inl ((hC k).2 (.inl (.inr (.inl e))))
          · rcases ob_31 with h | ⟨c, h, h3⟩
            · exact .inl ((hC k).2 (.inl (.inr (.inr (h ▸ e)))))
            · rw [h] at e; cases e; exact .inr (Nat.le_trans szG_31 h3)
          · exact .inl ((hC k).2 (.inr e))
        ·
          have q2 := h10
          refine RC.skip (RC.endr (j := none) hL ?_)
          intro w13 a13 z13 hL
          have hb_6 := hb_6.step a13 (fun e => nb_6_b_l e)
          have hb_7 := hb_7.step a13 (fun e => nb_7_b_l e)
          have hb_10 := hb_10.step a13 (fun e => nb_10_b_l e)
          have o := o.step a13 (fun k hk e => (fun k hk => (hob k hk).1) k hk e)
          have G := G.trans (a13.mono fun k _ e => .inl e)
          have szB := Nat.le_trans szB a13.size
          have hb_11 := hb_11.step a13 (fun e => n_l__11.symm e)
          -- round end 3
          rw [show stAll low high s x = (s, true) from by rw [stAll, if_neg q1, if_neg q2]]
          exact ⟨C, rfl, HAll.ft hC hL hb_6 hb_7 hb_10 o hob, G.mono fun k _ e => (hC k).2 (.inl e), Up.refl _ _⟩
    refine FC.mono (c_items1 b_l _ _ _ _ (stAll_cnt low high) hY A na fa nc fc r L hT [] (fun k => (k = b_l ∨ k = b_10 ∨ ob (.slice none 0 0) = some k) ∨ (k = b_6 ∨ k = b_7)) (· < w.heap.size) bA bR W1 hr (by simpa using hL2) ((Ft.of_sub fun u s => hA.sub s).sub S) (fun k hk e => by rcases e with (e | e | e) | (e | e) <;> first | (cases e; done) | omega) (HAll.ft (fun _ => Iff.rfl) hL hb_6 hb_7 hb_10 (Ows.nil _ _ _ _) (fun k e => by cases e)) (hbA.sub s1) (hbR.sub s1)) ?_
    rintro _ W2 ⟨C2, hH, ag, up⟩
    obtain ⟨v, ⟨hL, hb_6, hb_7, hb_10, o⟩, hob, hC⟩ := hH.now
    have hDC : ¬ ((b_D = b_l ∨ b_D = b_10 ∨ ob (.slice none 0 0) = some b_D) ∨ (b_D = b_6 ∨ b_D = b_7)) := (fun e => by rcases e with (e | e | e) | (e | e) <;> first | (cases e; done) | omega)
    have S := S.agrN ag (fun k e => by rcases e with (e | e | e) | (e | e) <;> first | (cases e; done) | omega)
    have hDn : ¬ C2 b_D := up.not hD.lt hDC
    have hD := hD.step ag hDC
    have hoD : ∀ k, ob v = some k → k ≠ b_D := fun k hk e => hDn (e ▸ (hC k).2 (.inl (.inr (.inr hk))))
    obtain ⟨a1, c1, rfl, _⟩ := o.form
    refine ⟨_, hL, recB_nb, fun W3 a3 z3 => .inl ⟨recB_pe, RC.backM ?_⟩⟩
    have S := S.agrN a3 (fun k e => e ▸ ge_l)
    have o := o.step a3 (fun k hk e => (fun k hk => (hob k hk).1) k hk e)
    have hb_10 := hb_10.step a3 (fun e => nb_10_b_l e)
    have hD := hD.step a3 (fun e => n_D_l e)
    refine RC.seq ?_
    refine RC.region rfl ?_
    refine RL.ev (.load1 sh42 rfl (hb_10.cell rfl)) rfl rfl ?_
    refine RL.ev (.assign rfl) rfl rfl ?_
    refine RL.ev (.assign rfl) rfl rfl ?_
    refine RL.nil (RC.back ?_)
    refine RC.doneM (rs := [.tmp 8, .tmp 9]) (vs := [_, _]) rfl rfl (fun _ => ⟨rfl, rfl, trivial⟩) hD (fun w14 a14 z14 => ?_)
    have S := S.agrN a14 (fun k e => e ▸ ge_D)
    have o := o.step a14 (fun k hk e => hoD k hk e)
    have hb_10 := hb_10.step a14 (fun e => nb_10_b_D e)
    -- end 2
    exact ⟨S, a1, c1, _, 0, rfl, o, fun h => absurd hmap h, fun L' hm hl => ⟨by rw [hl.unique hT, push_all hsrt]; simp, rfl⟩⟩
end Go.Proofs.YtbjmllnddanniaaGreat
set_option linter.unusedVariables false
set_option linter.unusedSimpArgs false
namespace Go.Proofs.YtbjmllnddanniaaGreat
open Go Go.XL
theorem wrap_u64s {n : Nat} (h : n ≤ 1000) : IntKind.u64.wrap (n : Int) = n := by
  simp [IntKind.wrap, IntKind.bits, IntKind.signed]; omega
theorem and_lo32 {n : Nat} (h : n ≤ 1000) : Value.int .u64 (IntKind.u64.wrap ((BitVec.ofInt 64 (n : Int) &&& BitVec.ofInt 64 4294967295).toNat : Int)) = .int .u64 (n : Int) := by
  have h2 : (BitVec.ofInt 64 (n : Int) &&& BitVec.ofInt 64 4294967295).toNat = n := by
    rw [BitVec.toNat_and, BitVec.ofInt_natCast, BitVec.toNat_ofNat]
    show n % 2 ^ 64 &&& 2 ^ 32 - 1 = n
    rw [Nat.and_two_pow_sub_one_eq_mod]; omega
  rw [h2, wrap_u64s h]
theorem shr_lo32 {n : Nat} (h : n ≤ 1000) : Value.int .u64 ((n : Int).fdiv (2 ^ min ((32 : Int).toNat) IntKind.u64.bits)) = .int .u64 0 := by
  have : (n : Int).fdiv 4294967296 = 0 := by rw [Int.fdiv_eq_ediv_of_nonneg _ (by decide)]; omega
  exact congrArg (Value.int .u64) this
theorem rep_plain (n : Nat) {x : List Value} (h : x.all plainV = true) : (List.replicate n x).all (fun r => r.all plainV) = true := by
  rw [List.all_eq_true]; intro r hr; rw [(List.mem_replicate.1 hr).2]; exact h
theorem c_mul64 (n : Nat) (h : n ≤ 1000) (w : World) : FC Tryz.prog 245 [.int .u64 1, .int .u64 (n : Int)] w (Val (.tuple #[.int .u64 0, .int .u64 (n : Int)]) w) := by
  refine FC.intro Tryz.func245 rfl Tryz.ntmps245 rfl ?_
  have S := Sub.refl w
  refine RC.seq ?_
  refine RC.region rfl ?_
  refine RL.ev (.assign rfl) rfl rfl ?_
  refine RL.ev (.assign rfl) rfl rfl ?_
  refine RL.nil (RC.back ?_)
  refine RC.seq ?_
  refine RC.region rfl ?_
  refine RL.ev (.move rfl) rfl rfl ?_
  refine RL.ev (.as (v' := .int .u64 1) (.bin rfl rfl rfl) (by rfl)) rfl rfl ?_
  refine RL.ev (.assign rfl) rfl rfl ?_
  refine RL.nil (RC.back ?_)
  refine RC.seq ?_
  refine RC.region rfl ?_
  refine RL.ev (.move rfl) rfl rfl ?_
  refine RL.ev (.as (v' := .int .u64 0) (.shr rfl rfl (by decide)) (by rfl)) rfl rfl ?_
  refine RL.ev (.assign rfl) rfl rfl ?_
  refine RL.nil (RC.back ?_)
  refine RC.seq ?_
  refine RC.region rfl ?_
  refine RL.ev (.move rfl) rfl rfl ?_
  refine RL.ev (.as (v' := .int .u64 (n : Int)) (.bin rfl rfl rfl) (by exact and_lo32 (by omega))) rfl rfl ?_
  refine RL.ev (.assign rfl) rfl rfl ?_
  refine RL.nil (RC.back ?_)
  refine RC.seq ?_
  refine RC.region rfl ?_
  refine RL.ev (.move rfl) rfl rfl ?_
  refine RL.ev (.as (v' := .int .u64 0) (.shr rfl rfl (by decide)) (by exact shr_lo32 (by omega))) rfl rfl ?_
  refine RL.ev (.assign rfl) rfl rfl ?_
  refine RL.nil (RC.back ?_)
  refine RC.seq ?_
  refine RC.region rfl ?_
  refine RL.ev (.move rfl) rfl rfl ?_
  refine RL.ev (.move rfl) rfl rfl ?_
  refine RL.ev (.as (v' := .int .u64 (n : Int)) (.bin rfl rfl rfl) (by rw [Int.one_mul, wrap_u64s (by omega)])) rfl rfl ?_
  refine RL.ev (.assign rfl) rfl rfl ?_
  refine RL.nil (RC.back ?_)
  refine RC.seq ?_
  refine RC.region rfl ?_
  refine RL.ev (.move rfl) rfl rfl ?_
  refine RL.ev (.move rfl) rfl rfl ?_
  refine RL.ev (.as (v' := .int .u64 0) (.bin rfl rfl rfl) (by rw [Int.zero_mul]; rfl)) rfl rfl ?_
  refine RL.ev (.move rfl) rfl rfl ?_
  refine RL.ev (.as (v' := .int .u64 0) (.shr rfl rfl (by decide)) (by exact shr_lo32 (by omega))) rfl rfl ?_
  refine RL.ev (.as (v' := .int .u64 0) (.bin rfl rfl rfl) (by rfl)) rfl rfl ?_
  refine RL.ev (.assign rfl) rfl rfl ?_
  refine RL.nil (RC.back ?_)
  refine RC.seq ?_
  refine RC.region rfl ?_
  refine RL.ev (.move rfl) rfl rfl ?_
  refine RL.ev (.as (v' := .int .u64 0) (.bin rfl rfl rfl) (by rfl)) rfl rfl ?_
  refine RL.ev (.assign rfl) rfl rfl ?_
  refine RL.nil (RC.back ?_)
  refine RC.seq ?_
  refine RC.region rfl ?_
  refine RL.ev (.move rfl) rfl rfl ?_
  refine RL.ev (.as (v' := .int .u64 0) (.shr rfl rfl (by decide)) (by rfl)) rfl rfl ?_
  refine RL.ev (.assign rfl) rfl rfl ?_
  refine RL.nil (RC.back ?_)
  refine RC.seq ?_
  refine RC.region rfl ?_
  refine RL.ev (.move rfl) rfl rfl ?_
  refine RL.ev (.move rfl) rfl rfl ?_
  refine RL.ev (.move rfl) rfl rfl ?_
  refine RL.ev (.as (v' := .int .u64 0) (.bin rfl rfl rfl) (by rfl)) rfl rfl ?_
  refine RL.ev (.as (v' := .int .u64 0) (.bin rfl rfl rfl) (by rfl)) rfl rfl ?_
  refine RL.ev (.assign rfl) rfl rfl ?_
  refine RL.nil (RC.back ?_)
  refine RC.seq ?_
  refine RC.region rfl ?_
  refine RL.ev (.move rfl) rfl rfl ?_
  refine RL.ev (.move rfl) rfl rfl ?_
  refine RL.ev (.as (v' := .int .u64 0) (.bin rfl rfl rfl) (by rfl)) rfl rfl ?_
  refine RL.ev (.move rfl) rfl rfl ?_
  refine RL.ev (.as (v' := .int .u64 0) (.bin rfl rfl rfl) (by rfl)) rfl rfl ?_
  refine RL.ev (.move rfl) rfl rfl ?_
  refine RL.ev (.as (v' := .int .u64 0) (.shr rfl rfl (by decide)) (by rfl)) rfl rfl ?_
  refine RL.ev (.as (v' := .int .u64 0) (.bin rfl rfl rfl) (by rfl)) rfl rfl ?_
  refine RL.ev (.assign rfl) rfl rfl ?_
  refine RL.nil (RC.back ?_)
  refine RC.seq ?_
  refine RC.region rfl ?_
  refine RL.ev (.move rfl) rfl rfl ?_
  refine RL.ev (.move rfl) rfl rfl ?_
  refine RL.ev (.as (v' := .int .u64 (n : Int)) (.bin rfl rfl rfl) (by rw [Int.one_mul, wrap_u64s (by omega)])) rfl rfl ?_
  refine RL.ev (.assign rfl) rfl rfl ?_
  refine RL.nil (RC.back ?_)
  refine RC.done (rs := [.tmp 4, .tmp 5]) (vs := [_, _]) rfl rfl ⟨rfl, rfl, trivial⟩ ?_
  -- end 1
  exact ⟨rfl, S⟩
theorem c_mul (n : Nat) (h : n ≤ 1000) (w : World) : FC Tryz.prog 190 [.int .u64 1, .int .u64 (n : Int)] w (Val (.tuple #[.int .u64 0, .int .u64 (n : Int)]) w) := by
  refine FC.intro Tryz.func190 rfl Tryz.ntmps190 rfl ?_
  have S := Sub.refl w
  refine RC.seq ?_
  refine RC.region rfl ?_
  refine RL.ev (.assign rfl) rfl rfl ?_
  refine RL.ev (.assign rfl) rfl rfl ?_
  refine RL.nil (RC.back ?_)
  refine RC.seq ?_
  refine RC.cond_f rfl ?_
  refine RC.skip (RC.back ?_)
  refine RC.seq ?_
  refine RC.region rfl ?_
  refine RL.ev (.move rfl) rfl rfl ?_
  refine RL.ev (.move rfl) rfl rfl ?_
  refine RL.call rfl ok245 (c_mul64 n h w) rfl rfl ?_
  rintro _ w1 ⟨rfl, s2⟩
  have S := S.trans s2
  refine RL.ev (.move rfl) rfl rfl ?_
  refine RL.ev (.extract rfl rfl) rfl rfl ?_
  refine RL.ev (.extract rfl rfl) rfl rfl ?_
  refine RL.ev (.assign rfl) rfl rfl ?_
  refine RL.ev (.assign rfl) rfl rfl ?_
  refine RL.nil (RC.back ?_)
  refine RC.seq ?_
  refine RC.region rfl ?_
  refine RL.ev (.move rfl) rfl rfl ?_
  refine RL.ev (.move rfl) rfl rfl ?_
  refine RL.ev (.assign rfl) rfl rfl ?_
  refine RL.ev (.assign rfl) rfl rfl ?_
  refine RL.nil (RC.back ?_)
  refine RC.done (rs := [.tmp 4, .tmp 5]) (vs := [_, _]) rfl rfl ⟨rfl, rfl, trivial⟩ ?_
  -- end 1
  exact ⟨rfl, S⟩
theorem rep_rows {x z : List Value} {s k j : Nat} (hx : x.length = s) (hz : z.length = s) : ∀ r ∈ List.replicate k x ++ List.replicate j z, r.length = s := by
  intro r hr
  rcases List.mem_append.1 hr with h | h
  · rw [(List.mem_replicate.1 h).2, hx]
  · rw [(List.mem_replicate.1 h).2, hz]
theorem rep_rows1 {x : List Value} {s k : Nat} (hx : x.length = s) : ∀ r ∈ List.replicate k x, r.length = s := fun r h => by rw [(List.mem_replicate.1 h).2, hx]
theorem blit_rep {x z : List Value} {k j : Nat} : blit (List.replicate k x ++ List.replicate j z) k ((List.replicate k x).take (min k j)) = List.replicate (k + min k j) x ++ List.replicate (j - min k j) z := by
  unfold blit
  rw [List.take_replicate, List.length_replicate, List.take_left' (List.length_replicate), List.drop_append, List.length_replicate, List.drop_eq_nil_of_le (by simp), List.nil_append, List.drop_replicate, show min (min k j) k = min k j by omega, show k + min k j - k = min k j by omega, ← List.replicate_append_replicate]
theorem blit_rep1 {x z : List Value} {n : Nat} : blit (List.replicate n z) 0 ([x].take (min 1 n)) = List.replicate (min 1 n) x ++ List.replicate (n - min 1 n) z := by
  unfold blit
  cases n with
  | zero => rfl
  | succ n => rw [show min 1 (n + 1) = 1 by omega]; simp [List.replicate_succ]
theorem c_repI (n : Nat) (hn : 1 ≤ n ∧ n ≤ 512) (b : Nat) (w : World) (hb : Has w b ([.int .i64 (-1)] : List Value) 3) :
    FC Tryz.prog 243 [.slice (some ⟨b, 0, none⟩) 1 1, .int .i64 (n : Int)] w (fun v w' => Sub w w' ∧ ∃ b2, v = .slice (some ⟨b2, 0, none⟩) n n ∧ w.heap.size ≤ b2 ∧ Has w' b2 (List.replicate n ([.int .i64 (-1)] : List Value)).flatten 3) := by
  have hx : (([.int .i64 (-1)] : List Value) : List Value).length = 1 := rfl
  have hz : (([.int .i64 0] : List Value) : List Value).length = 1 := rfl
  refine FC.intro Tryz.func243 rfl Tryz.ntmps243 rfl ?_
  have S := Sub.refl w
  refine RC.seq ?_
  refine RC.region rfl ?_
  refine RL.ev (.assign rfl) rfl rfl ?_
  refine RL.nil (RC.back ?_)
  refine RC.seq ?_
  refine RC.seq ?_
  refine RC.region rfl ?_
  refine RL.ev (.move rfl) rfl rfl ?_
  refine RL.ev (.bin rfl rfl rfl) rfl rfl ?_
  refine RL.nil (RC.back ?_)
  refine RC.cond_dec rfl (fun h1 => ?_) (fun h1 => ?_)
  ·
    exact absurd h1 (by omega)
  ·
    refine RC.skip (RC.back ?_)
    refine RC.seq ?_
    refine RC.region rfl ?_
    refine RL.ev (.move rfl) rfl rfl ?_
    refine RL.ev (.len sl24 rfl) rfl rfl ?_
    refine RL.ev (.conv i3 i190 rfl) rfl rfl ?_
    refine RL.ev (.move rfl) rfl rfl ?_
    refine RL.ev (.as (v' := .int .u64 (n : Int)) (.conv i3 i190 rfl) (by rw [show IntKind.u64.wrap (n : Int) = n by simp [IntKind.wrap, IntKind.bits, IntKind.signed]; omega])) rfl rfl ?_
    refine RL.call rfl ok190 (c_mul n (by omega) w) rfl rfl ?_
    rintro _ w2 ⟨rfl, s3⟩
    have S := S.trans s3
    have hb := hb.sub s3
    refine RL.ev (.move rfl) rfl rfl ?_
    refine RL.ev (.extract rfl rfl) rfl rfl ?_
    refine RL.ev (.extract rfl rfl) rfl rfl ?_
    refine RL.ev (.assign rfl) rfl rfl ?_
    refine RL.ev (.assign rfl) rfl rfl ?_
    refine RL.nil (RC.back ?_)
    refine RC.seq ?_
    refine RC.seq ?_
    refine RC.region rfl ?_
    refine RL.ev (.move rfl) rfl rfl ?_
    refine RL.ev (.as (v' := .bool false) (.bin rfl rfl rfl) (congrArg Value.bool (decide_eq_false (by decide)))) rfl rfl ?_
    refine RL.ev (.move rfl) rfl rfl ?_
    refine RL.ev (.move rfl) rfl rfl ?_
    refine RL.ev (.as (v' := .bool false) (.bin rfl rfl rfl) (congrArg Value.bool (decide_eq_false (by omega)))) rfl rfl ?_
    refine RL.ev (.pick_f rfl rfl) rfl rfl ?_
    refine RL.nil (RC.back ?_)
    refine RC.cond_f rfl ?_
    refine RC.skip (RC.back ?_)
    refine RC.seq ?_
    refine RC.region rfl ?_
    refine RL.ev (.move rfl) rfl rfl ?_
    refine RL.ev (.as (v' := .int .i64 (n : Int)) (.conv i190 i3 rfl) (by rw [wrap_i64 (by omega)])) rfl rfl ?_
    refine RL.makeSlice sl24 ze3 rfl rfl rfl rfl (by omega) rfl rfl (fun b_30 w_30 e_30 z_30 hb_30 s_30 => ?_)
    have ge_30 := S.le e_30
    have n__30 := hb.ne e_30
    have S := S.trans s_30
    have hb := hb.sub s_30
    have hb_30 : Has w_30 b_30 (List.replicate n ([.int .i64 0] : List Value)).flatten 3 := (by have := hb_30; rw [Int.toNat_natCast] at this; exact this)
    refine RL.ev (.assign rfl) rfl rfl ?_
    refine RL.nil (RC.back ?_)
    refine RC.seq ?_
    refine RC.region rfl ?_
    refine RL.ev (.move rfl) rfl rfl ?_
    refine RL.ev (.move rfl) rfl rfl ?_
    refine RL.copyB (o := 0) (k := 1) (m := n) (R := List.replicate n ([.int .i64 0] : List Value)) (l := [([.int .i64 (-1)] : List Value)]) sl24 rfl (by simp only [Nat.zero_mul]; rfl) rfl hb_30 (rep_rows1 hz) (by simp; omega) (Has.sl0 (rows := [([.int .i64 (-1)] : List Value)]) (by simpa using hb) (by simp)) rfl (by simp) (by rw [show min 1 n = 1 by omega]; rfl) rfl rfl (fun w4 z33 hb_30 a33 => ?_)
    have S := S.upd a33 ge_30
    have hb := hb.upd a33 n__30
    rw [blit_rep1, show min 1 n = 1 by omega] at hb_30
    rw [show min 1 n = 1 by omega]
    refine RL.ev (.assign rfl) rfl rfl ?_
    refine RL.nil (RC.back ?_)
    refine RC.seq ?_
    refine RC.block ?_
    refine RC.loop (α := Nat) (fun k => [(7, .slice (some ⟨b_30, 0, none⟩) n n), (8, .int .i64 (k : Int))]) (fun k w5 => (1 ≤ k ∧ k ≤ n) ∧ Has w5 b_30 (List.replicate k ([.int .i64 (-1)] : List Value) ++ List.replicate (n - k) ([.int .i64 0] : List Value)).flatten 3 ∧ Sub w w5) (fun k => n - k) 1 (keep_of (by repeat (first | exact trivial | refine And.intro rfl ?_))) (⟨⟨Nat.le_refl _, hn.1⟩, hb_30, S⟩) (fun k w5 hJ => ?_)
    obtain ⟨hk, hb_30, S⟩ := hJ
    refine RC.seq ?_
    refine RC.seq ?_
    refine RC.region rfl ?_
    refine RL.ev (.move rfl) rfl rfl ?_
    refine RL.ev (.move rfl) rfl rfl ?_
    refine RL.ev (.len sl24 rfl) rfl rfl ?_
    refine RL.ev (.bin rfl rfl rfl) rfl rfl ?_
    refine RL.nil (RC.back ?_)
    refine RC.cond_dec rfl (fun h6 => ?_) (fun h6 => ?_)
    ·
      refine RC.skip (RC.back ?_)
      refine RC.block ?_
      refine RC.drawD (fun k => k = b_30) [7] w5.heap.size 10 rfl rfl mxo (fun w7 s8 => ?_)
      have hNN : ∀ k, ((k = b_30) ∨ w5.heap.size ≤ k) → w.heap.size ≤ k := fun k e => e.elim (fun e => e ▸ ge_30) (fun e => Nat.le_trans S.size e)
      have ent_S := S.size
      have hN0 : ∀ k, w5.heap.size ≤ k → w.heap.size ≤ k := fun k e => Nat.le_trans S.size e
      have ltD_b_30 := hb_30.lt
      have szD := Nat.le_refl w5.heap.size
      have S := S.trans s8
      have hb_30 := hb_30.sub s8
      have szD := Nat.le_trans szD s8.size
      refine RD.take 0 rfl (by kernel_rfl) (by kernel_rfl) (by kernel_rfl) (fun w' s' => .move rfl) rfl rfl ?_
      refine RD.take 1 rfl (by kernel_rfl) (by kernel_rfl) (by kernel_rfl) (fun w' s' => .move rfl) rfl rfl ?_
      refine RD.take 2 rfl (by kernel_rfl) (by kernel_rfl) (by kernel_rfl) (fun w' s' => .move rfl) rfl rfl ?_
      refine RD.take 3 rfl (by kernel_rfl) (by kernel_rfl) (by kernel_rfl) (fun w' s' => .as (v' := .slice (some ⟨b_30, k * 1, none⟩) (n - k) (n - k)) (.sliceLo sl24 rfl rfl (by omega)) (by rw [sl_at (by omega)]; rfl)) rfl rfl ?_
      refine RD.take 4 rfl (by kernel_rfl) (by kernel_rfl) (by kernel_rfl) (fun w' s' => .move rfl) rfl rfl ?_
      refine RD.take 5 rfl (by kernel_rfl) (by kernel_rfl) (by kernel_rfl) (fun w' s' => .move rfl) rfl rfl ?_
      refine RD.take 6 rfl (by kernel_rfl) (by kernel_rfl) (by kernel_rfl) (fun w' s' => .sliceHi sl24 rfl rfl (by omega)) rfl rfl ?_
      refine RD.all [7] (by kernel_rfl) rfl (RDs.cons rfl ?_ (RDs.nil))
      refine RL.copyB (o := k) (k := k) (m := n - k) (R := List.replicate k ([.int .i64 (-1)] : List Value) ++ List.replicate (n - k) ([.int .i64 0] : List Value)) (l := List.replicate k ([.int .i64 (-1)] : List Value)) sl24 rfl rfl rfl hb_30 (rep_rows hx hz) (by simp; omega) (Has.sl (rows := List.replicate k ([.int .i64 (-1)] : List Value)) (extra := (List.replicate (n - k) ([.int .i64 0] : List Value)).flatten) (by rw [← List.flatten_append]; exact hb_30) (rep_rows1 hx)) (by simp) (rep_rows1 hx) (by rw [List.take_replicate]; exact rep_plain _ rfl) rfl rfl (fun w9 z45 hb_30 a45 => ?_)
      have S := S.upd a45 ge_30
      have szD := Nat.le_trans szD a45.size
      rw [blit_rep] at hb_30
      refine RD.backW rfl (a45.mono fun k _ e => .inl e) ?_
      refine RD.take 8 rfl (by kernel_rfl) (by kernel_rfl) (by kernel_rfl) (fun w' s' => .as (.bin rfl rfl rfl) (wi64 (y := ((k + min k (n - k) : Nat) : Int)) (by omega) (by omega))) rfl rfl ?_
      refine RD.take 9 rfl (by kernel_rfl) (by kernel_rfl) (by kernel_rfl) (fun w' s' => .assign rfl) rfl rfl ?_
      exact RD.done (by kernel_rfl) (fun a ka => ⟨k + min k (n - k), ⟨by omega, by rw [show n - (k + min k (n - k)) = n - k - min k (n - k) by omega]; exact hb_30, S⟩, by omega, ka.keep (keep_of (by repeat (first | exact trivial | refine And.intro rfl ?_)))⟩)
    ·
      obtain rfl : k = n := (by omega)
      refine RC.exit rfl (RC.back ?_)
      refine RC.seq ?_
      refine RC.region rfl ?_
      refine RL.ev (.move rfl) rfl rfl ?_
      refine RL.ev (.assign rfl) rfl rfl ?_
      refine RL.nil (RC.back ?_)
      refine RC.done (rs := [.tmp 4]) (vs := [_]) rfl rfl ⟨rfl, trivial⟩ ?_
      -- end 1
      rw [Nat.sub_self, List.replicate_zero, List.append_nil] at hb_30
      exact ⟨S, b_30, rfl, ge_30, hb_30⟩
theorem c_repC (n : Nat) (hn : 1 ≤ n ∧ n ≤ 512) (b : Nat) (w : World) (hb : Has w b ([.int .u64 0, .int .i64 0, .int .i64 0, .bool true] : List Value) 97) :
    FC Tryz.prog 117 [.slice (some ⟨b, 0, none⟩) 1 1, .int .i64 (n : Int)] w (fun v w' => Sub w w' ∧ ∃ b2, v = .slice (some ⟨b2, 0, none⟩) n n ∧ w.heap.size ≤ b2 ∧ Has w' b2 (List.replicate n ([.int .u64 0, .int .i64 0, .int .i64 0, .bool true] : List Value)).flatten 97) := by
  have hx : (([.int .u64 0, .int .i64 0, .int .i64 0, .bool true] : List Value) : List Value).length = 4 := rfl
  have hz : (([.int .u64 0, .int .i64 0, .int .i64 0, .bool false] : List Value) : List Value).length = 4 := rfl
  refine FC.intro Tryz.func117 rfl Tryz.ntmps117 rfl ?_
  have S := Sub.refl w
  refine RC.seq ?_
  refine RC.region rfl ?_
  refine RL.ev (.assign rfl) rfl rfl ?_
  refine RL.nil (RC.back ?_)
  refine RC.seq ?_
  refine RC.seq ?_
  refine RC.region rfl ?_
  refine RL.ev (.move rfl) rfl rfl ?_
  refine RL.ev (.bin rfl rfl rfl) rfl rfl ?_
  refine RL.nil (RC.back ?_)
  refine RC.cond_dec rfl (fun h1 => ?_) (fun h1 => ?_)
  ·
    exact absurd h1 (by omega)
  ·
    refine RC.skip (RC.back ?_)
    refine RC.seq ?_
    refine RC.region rfl ?_
    refine RL.ev (.move rfl) rfl rfl ?_
    refine RL.ev (.len sl65 rfl) rfl rfl ?_
    refine RL.ev (.conv i3 i190 rfl) rfl rfl ?_
    refine RL.ev (.move rfl) rfl rfl ?_
    refine RL.ev (.as (v' := .int .u64 (n : Int)) (.conv i3 i190 rfl) (by rw [show IntKind.u64.wrap (n : Int) = n by simp [IntKind.wrap, IntKind.bits, IntKind.signed]; omega])) rfl rfl ?_
    refine RL.call rfl ok190 (c_mul n (by omega) w) rfl rfl ?_
    rintro _ w2 ⟨rfl, s3⟩
    have S := S.trans s3
    have hb := hb.sub s3
    refine RL.ev (.move rfl) rfl rfl ?_
    refine RL.ev (.extract rfl rfl) rfl rfl ?_
    refine RL.ev (.extract rfl rfl) rfl rfl ?_
    refine RL.ev (.assign rfl) rfl rfl ?_
    refine RL.ev (.assign rfl) rfl rfl ?_
    refine RL.nil (RC.back ?_)
    refine RC.seq ?_
    refine RC.seq ?_
    refine RC.region rfl ?_
    refine RL.ev (.move rfl) rfl rfl ?_
    refine RL.ev (.as (v' := .bool false) (.bin rfl rfl rfl) (congrArg Value.bool (decide_eq_false (by decide)))) rfl rfl ?_
    refine RL.ev (.move rfl) rfl rfl ?_
    refine RL.ev (.move rfl) rfl rfl ?_
    refine RL.ev (.as (v' := .bool false) (.bin rfl rfl rfl) (congrArg Value.bool (decide_eq_false (by omega)))) rfl rfl ?_
    refine RL.ev (.pick_f rfl rfl) rfl rfl ?_
    refine RL.nil (RC.back ?_)
    refine RC.cond_f rfl ?_
    refine RC.skip (RC.back ?_)
    refine RC.seq ?_
    refine RC.region rfl ?_
    refine RL.ev (.move rfl) rfl rfl ?_
    refine RL.ev (.as (v' := .int .i64 (n : Int)) (.conv i190 i3 rfl) (by rw [wrap_i64 (by omega)])) rfl rfl ?_
    refine RL.makeSlice sl65 ze97 rfl rfl rfl rfl (by omega) rfl rfl (fun b_30 w_30 e_30 z_30 hb_30 s_30 => ?_)
    have ge_30 := S.le e_30
    have n__30 := hb.ne e_30
    have S := S.trans s_30
    have hb := hb.sub s_30
    have hb_30 : Has w_30 b_30 (List.replicate n ([.int .u64 0, .int .i64 0, .int .i64 0, .bool false] : List Value)).flatten 97 := (by have := hb_30; rw [Int.toNat_natCast] at this; exact this)
    refine RL.ev (.assign rfl) rfl rfl ?_
    refine RL.nil (RC.back ?_)
    refine RC.seq ?_
    refine RC.region rfl ?_
    refine RL.ev (.move rfl) rfl rfl ?_
    refine RL.ev (.move rfl) rfl rfl ?_
    refine RL.copyB (o := 0) (k := 1) (m := n) (R := List.replicate n ([.int .u64 0, .int .i64 0, .int .i64 0, .bool false] : List Value)) (l := [([.int .u64 0, .int .i64 0, .int .i64 0, .bool true] : List Value)]) sl65 rfl (by simp only [Nat.zero_mul]; rfl) rfl hb_30 (rep_rows1 hz) (by simp; omega) (Has.sl0 (rows := [([.int .u64 0, .int .i64 0, .int .i64 0, .bool true] : List Value)]) (by simpa using hb) (by simp)) rfl (by simp) (by rw [show min 1 n = 1 by omega]; rfl) rfl rfl (fun w4 z33 hb_30 a33 => ?_)
    have S := S.upd a33 ge_30
    have hb := hb.upd a33 n__30
    rw [blit_rep1, show min 1 n = 1 by omega] at hb_30
    rw [show min 1 n = 1 by omega]
    refine RL.ev (.assign rfl) rfl rfl ?_
    refine RL.nil (RC.back ?_)
    refine RC.seq ?_
    refine RC.block ?_
    refine RC.loop (α := Nat) (fun k => [(7, .slice (some ⟨b_30, 0, none⟩) n n), (8, .int .i64 (k : Int))]) (fun k w5 => (1 ≤ k ∧ k ≤ n) ∧ Has w5 b_30 (List.replicate k ([.int .u64 0, .int .i64 0, .int .i64 0, .bool true] : List Value) ++ List.replicate (n - k) ([.int .u64 0, .int .i64 0, .int .i64 0, .bool false] : List Value)).flatten 97 ∧ Sub w w5) (fun k => n - k) 1 (keep_of (by repeat (first | exact trivial | refine And.intro rfl ?_))) (⟨⟨Nat.le_refl _, hn.1⟩, hb_30, S⟩) (fun k w5 hJ => ?_)
    obtain ⟨hk, hb_30, S⟩ := hJ
    refine RC.seq ?_
    refine RC.seq ?_
    refine RC.region rfl ?_
    refine RL.ev (.move rfl) rfl rfl ?_
    refine RL.ev (.move rfl) rfl rfl ?_
    refine RL.ev (.len sl65 rfl) rfl rfl ?_
    refine RL.ev (.bin rfl rfl rfl) rfl rfl ?_
    refine RL.nil (RC.back ?_)
    refine RC.cond_dec rfl (fun h6 => ?_) (fun h6 => ?_)
    ·
      refine RC.skip (RC.back ?_)
      refine RC.block ?_
      refine RC.drawD (fun k => k = b_30) [7] w5.heap.size 10 rfl rfl mxo (fun w7 s8 => ?_)
      have hNN : ∀ k, ((k = b_30) ∨ w5.heap.size ≤ k) → w.heap.size ≤ k := fun k e => e.elim (fun e => e ▸ ge_30) (fun e => Nat.le_trans S.size e)
      have ent_S := S.size
      have hN0 : ∀ k, w5.heap.size ≤ k → w.heap.size ≤ k := fun k e => Nat.le_trans S.size e
      have ltD_b_30 := hb_30.lt
      have szD := Nat.le_refl w5.heap.size
      have S := S.trans s8
      have hb_30 := hb_30.sub s8
      have szD := Nat.le_trans szD s8.size
      refine RD.take 0 rfl (by kernel_rfl) (by kernel_rfl) (by kernel_rfl) (fun w' s' => .move rfl) rfl rfl ?_
      refine RD.take 1 rfl (by kernel_rfl) (by kernel_rfl) (by kernel_rfl) (fun w' s' => .move rfl) rfl rfl ?_
      refine RD.take 2 rfl (by kernel_rfl) (by kernel_rfl) (by kernel_rfl) (fun w' s' => .move rfl) rfl rfl ?_
      refine RD.take 3 rfl (by kernel_rfl) (by kernel_rfl) (by kernel_rfl) (fun w' s' => .as (v' := .slice (some ⟨b_30, k * 4, none⟩) (n - k) (n - k)) (.sliceLo sl65 rfl rfl (by omega)) (by rw [sl_at (by omega)]; rfl)) rfl rfl ?_
      refine RD.take 4 rfl (by kernel_rfl) (by kernel_rfl) (by kernel_rfl) (fun w' s' => .move rfl) rfl rfl ?_
      refine RD.take 5 rfl (by kernel_rfl) (by kernel_rfl) (by kernel_rfl) (fun w' s' => .move rfl) rfl rfl ?_
      refine RD.take 6 rfl (by kernel_rfl) (by kernel_rfl) (by kernel_rfl) (fun w' s' => .sliceHi sl65 rfl rfl (by omega)) rfl rfl ?_
      refine RD.all [7] (by kernel_rfl) rfl (RDs.cons rfl ?_ (RDs.nil))
      refine RL.copyB (o := k) (k := k) (m := n - k) (R := List.replicate k ([.int .u64 0, .int .i64 0, .int .i64 0, .bool true] : List Value) ++ List.replicate (n - k) ([.int .u64 0, .int .i64 0, .int .i64 0, .bool false] : List Value)) (l := List.replicate k ([.int .u64 0, .int .i64 0, .int .i64 0, .bool true] : List Value)) sl65 rfl rfl rfl hb_30 (rep_rows hx hz) (by simp; omega) (Has.sl (rows := List.replicate k ([.int .u64 0, .int .i64 0, .int .i64 0, .bool true] : List Value)) (extra := (List.replicate (n - k) ([.int .u64 0, .int .i64 0, .int .i64 0, .bool false] : List Value)).flatten) (by rw [← List.flatten_append]; exact hb_30) (rep_rows1 hx)) (by simp) (rep_rows1 hx) (by rw [List.take_replicate]; exact rep_plain _ rfl) rfl rfl (fun w9 z45 hb_30 a45 => ?_)
      have S := S.upd a45 ge_30
      have szD := Nat.le_trans szD a45.size
      rw [blit_rep] at hb_30
      refine RD.backW rfl (a45.mono fun k _ e => .inl e) ?_
      refine RD.take 8 rfl (by kernel_rfl) (by kernel_rfl) (by kernel_rfl) (fun w' s' => .as (.bin rfl rfl rfl) (wi64 (y := ((k + min k (n - k) : Nat) : Int)) (by omega) (by omega))) rfl rfl ?_
      refine RD.take 9 rfl (by kernel_rfl) (by kernel_rfl) (by kernel_rfl) (fun w' s' => .assign rfl) rfl rfl ?_
      exact RD.done (by kernel_rfl) (fun a ka => ⟨k + min k (n - k), ⟨by omega, by rw [show n - (k + min k (n - k)) = n - k - min k (n - k) by omega]; exact hb_30, S⟩, by omega, ka.keep (keep_of (by repeat (first | exact trivial | refine And.intro rfl ?_)))⟩)
    ·
      obtain rfl : k = n := (by omega)
      refine RC.exit rfl (RC.back ?_)
      refine RC.seq ?_
      refine RC.region rfl ?_
      refine RL.ev (.move rfl) rfl rfl ?_
      refine RL.ev (.assign rfl) rfl rfl ?_
      refine RL.nil (RC.back ?_)
      refine RC.done (rs := [.tmp 4]) (vs := [_]) rfl rfl ⟨rfl, trivial⟩ ?_
      -- end 1
      rw [Nat.sub_self, List.replicate_zero, List.append_nil] at hb_30
      exact ⟨S, b_30, rfl, ge_30, hb_30⟩
end Go.Proofs.YtbjmllnddanniaaGreat
set_option linter.unusedVariables false
set_option linter.unusedSimpArgs false
namespace Go.Proofs.YtbjmllnddanniaaGreat
open Go Go.XL
/-- new blocks alone -/
abbrev UpN (w : World) (M : Nat → Prop) : Prop := Up (fun _ => False) w M
theorem UpN.one {w : World} {b : Nat} (h : w.heap.size ≤ b) : UpN w (· = b) := fun k hk => .inr (hk ▸ h)
theorem UpN.or {w : World} {M N : Nat → Prop} (h : UpN w M) (k : UpN w N) : UpN w (fun x => M x ∨ N x) := fun i hi => hi.elim (h i) (k i)
theorem UpN.low {w w' : World} {M : Nat → Prop} (h : UpN w' M) (hz : w.heap.size ≤ w'.heap.size) : UpN w M := h.le hz
/-- a version that is new, of n processes -/
def RcNew (n : Nat) (u : World) (x : RcP) : Prop := ∃ b1 b2, x = ⟨0, rt0, some ⟨b1, 0, none⟩, n, n, some ⟨b2, 0, none⟩, n, n⟩ ∧ Has u b1 (List.replicate n [i0]).flatten 3 ∧ Has u b2 (List.replicate n [i0, i0, i0]).flatten 38
theorem c_bBegin (n : Nat) (hn : 1 ≤ n ∧ n ≤ 8) (w : World) :
    FC Tryz.prog 242 [.int .i64 (n : Int)] w (fun v w' => Sub w w' ∧ ∃ x M, v = .tuple #[x.val, .int .i64 0] ∧ UpN w M ∧ Ft M (fun u => RcNew n u x) w') := by
  refine FC.intro Tryz.func242 rfl Tryz.ntmps242 rfl ?_
  have S := Sub.refl w
  refine RC.seq ?_
  refine RC.region rfl ?_
  refine RL.alloc ze77 rfl rfl (fun b_2 w_2 e_2 z_2 hb_2 s_2 => ?_)
  have ge_2 := S.le e_2
  have S := S.trans s_2
  refine RL.ev (.assign rfl) rfl rfl ?_
  refine RL.nil (RC.back ?_)
  refine RC.seq ?_
  refine RC.seq ?_
  refine RC.region rfl ?_
  refine RL.ev (.move rfl) rfl rfl ?_
  refine RL.ev (.bin rfl rfl rfl) rfl rfl ?_
  refine RL.ev (.move rfl) rfl rfl ?_
  refine RL.split 6 rfl (fun h1 => ?_) (fun h1 => ?_)
  ·
    exact absurd h1 (by omega)
  ·
    refine RL.ev (.move rfl) rfl rfl ?_
    refine RL.ev (.bin rfl rfl rfl) rfl rfl ?_
    refine RL.ev (.pick_f rfl rfl) rfl rfl ?_
    refine RL.nil (RC.back ?_)
    refine RC.cond_dec rfl (fun h2 => ?_) (fun h2 => ?_)
    ·
      exact absurd h2 (by omega)
    ·
      refine RC.skip (RC.back ?_)
      refine RC.seq ?_
      refine RC.drawD (fun k => k = b_2) [5] w_2.heap.size 7 rfl rfl mxo (fun w3 s4 => ?_)
      have hNN : ∀ k, ((k = b_2) ∨ w_2.heap.size ≤ k) → w.heap.size ≤ k := fun k e => e.elim (fun e => e ▸ ge_2) (fun e => Nat.le_trans S.size e)
      have ent_S := S.size
      have hN0 : ∀ k, w_2.heap.size ≤ k → w.heap.size ≤ k := fun k e => Nat.le_trans S.size e
      have ltD_b_2 := hb_2.lt
      have szD := Nat.le_refl w_2.heap.size
      have S := S.trans s4
      have hb_2 := hb_2.sub s4
      have szD := Nat.le_trans szD s4.size
      refine RD.take 0 rfl (by kernel_rfl) (by kernel_rfl) (by kernel_rfl) (fun w' s' => .move rfl) rfl rfl ?_
      refine RD.take 2 rfl (by kernel_rfl) (by kernel_rfl) (by kernel_rfl) (fun w' s' => .move rfl) rfl rfl ?_
      refine RD.all [1, 3] (by kernel_rfl) rfl (RDs.cons rfl ?_ (RDs.cons rfl ?_ (RDs.nil)))
      ·
        refine RL.makeSlice sl24 ze3 rfl rfl rfl rfl (by omega) rfl rfl (fun b_12 w_12 e_12 z_12 hb_12 s_12 => ?_)
        have fr_b_12 : w_2.heap.size ≤ b_12 := by rw [e_12]; exact szD
        have ge_12 := S.le e_12
        have n_2__12 := hb_2.ne e_12
        have S := S.trans s_12
        have hb_2 := hb_2.sub s_12
        have szD := Nat.le_trans szD s_12.size
        have hb_12 : Has w_12 b_12 (List.replicate n [i0]).flatten 3 := (by have := hb_12; rw [Int.toNat_natCast] at this; exact this)
        refine RD.back s_12.agr ?_
        refine RD.all [3] (by kernel_rfl) rfl (RDs.cons rfl ?_ (RDs.nil))
        refine RL.makeSlice sl75 ze38 rfl rfl rfl rfl (by omega) rfl rfl (fun b_14 w_14 e_14 z_14 hb_14 s_14 => ?_)
        have fr_b_14 : w_2.heap.size ≤ b_14 := by rw [e_14]; exact szD
        have ge_14 := S.le e_14
        have n_2__14 := hb_2.ne e_14
        have n_12__14 := hb_12.ne e_14
        have S := S.trans s_14
        have hb_2 := hb_2.sub s_14
        have szD := Nat.le_trans szD s_14.size
        have hb_12 := hb_12.sub s_14
        have hb_14 : Has w_14 b_14 (List.replicate n [i0, i0, i0]).flatten 38 := (by have := hb_14; rw [Int.toNat_natCast] at this; exact this)
        refine RD.back s_14.agr ?_
        refine RD.take 4 rfl (by kernel_rfl) (by kernel_rfl) (by kernel_rfl) (fun w' s' => .buildS ze77 pl77 rfl rfl) rfl rfl ?_
        refine RD.all [5] (by kernel_rfl) rfl (RDs.cons rfl ?_ (RDs.nil))
        refine RL.store sh77 rfl rfl rfl hb_2 (by exact Nat.le_of_ble_eq_true rfl) (by rfl) rfl (fun w5 z5 hb_2 a5 => ?_)
        have S := S.upd a5 ge_2
        have szD := Nat.le_trans szD a5.size
        have hb_12 := hb_12.upd a5 n_2__12.symm
        have hb_14 := hb_14.upd a5 n_2__14.symm
        have hb_2 : Has w5 b_2 ((⟨0, rt0, some ⟨b_12, 0, none⟩, n, n, some ⟨b_14, 0, none⟩, n, n⟩ : RcP).cells) _ := hb_2.now (by kernel_rfl)
        refine RD.backW rfl (a5.mono fun k _ e => e ▸ (.inl (rfl))) ?_
        refine RD.take 6 rfl (by kernel_rfl) (by kernel_rfl) (by kernel_rfl) (fun w' s' => .assign rfl) rfl rfl ?_
        refine RD.done (by kernel_rfl) (RC.back ?_)
        refine RC.done (rs := [.cell 2 77, .tmp 3]) (vs := [_, _]) rfl rfl ⟨⟨_, rfl, .inr ⟨(⟨0, rt0, some ⟨b_12, 0, none⟩, n, n, some ⟨b_14, 0, none⟩, n, n⟩ : RcP).cells, sh77, hb_2.row, rfl⟩⟩, rfl, trivial⟩ ?_
        -- end 1
        exact ⟨S, _, _, rfl, (UpN.one ge_12).or (UpN.one ge_14), (hb_12.ft.and hb_14.ft).imp fun u h => ⟨b_12, b_14, rfl, h.1, h.2⟩⟩
      ·
        refine RL.makeSlice sl75 ze38 rfl rfl rfl rfl (by omega) rfl rfl (fun b_14 w_14 e_14 z_14 hb_14 s_14 => ?_)
        have fr_b_14 : w_2.heap.size ≤ b_14 := by rw [e_14]; exact szD
        have ge_14 := S.le e_14
        have n_2__14 := hb_2.ne e_14
        have S := S.trans s_14
        have hb_2 := hb_2.sub s_14
        have szD := Nat.le_trans szD s_14.size
        have hb_14 : Has w_14 b_14 (List.replicate n [i0, i0, i0]).flatten 38 := (by have := hb_14; rw [Int.toNat_natCast] at this; exact this)
        refine RD.back s_14.agr ?_
        refine RD.all [1] (by kernel_rfl) rfl (RDs.cons rfl ?_ (RDs.nil))
        refine RL.makeSlice sl24 ze3 rfl rfl rfl rfl (by omega) rfl rfl (fun b_12 w_12 e_12 z_12 hb_12 s_12 => ?_)
        have fr_b_12 : w_2.heap.size ≤ b_12 := by rw [e_12]; exact szD
        have ge_12 := S.le e_12
        have n_2__12 := hb_2.ne e_12
        have n_14__12 := hb_14.ne e_12
        have S := S.trans s_12
        have hb_2 := hb_2.sub s_12
        have szD := Nat.le_trans szD s_12.size
        have hb_14 := hb_14.sub s_12
        have hb_12 : Has w_12 b_12 (List.replicate n [i0]).flatten 3 := (by have := hb_12; rw [Int.toNat_natCast] at this; exact this)
        refine RD.back s_12.agr ?_
        refine RD.take 4 rfl (by kernel_rfl) (by kernel_rfl) (by kernel_rfl) (fun w' s' => .buildS ze77 pl77 rfl rfl) rfl rfl ?_
        refine RD.all [5] (by kernel_rfl) rfl (RDs.cons rfl ?_ (RDs.nil))
        refine RL.store sh77 rfl rfl rfl hb_2 (by exact Nat.le_of_ble_eq_true rfl) (by rfl) rfl (fun w6 z6 hb_2 a6 => ?_)
        have S := S.upd a6 ge_2
        have szD := Nat.le_trans szD a6.size
        have hb_14 := hb_14.upd a6 n_2__14.symm
        have hb_12 := hb_12.upd a6 n_2__12.symm
        have hb_2 : Has w6 b_2 ((⟨0, rt0, some ⟨b_12, 0, none⟩, n, n, some ⟨b_14, 0, none⟩, n, n⟩ : RcP).cells) _ := hb_2.now (by kernel_rfl)
        refine RD.backW rfl (a6.mono fun k _ e => e ▸ (.inl (rfl))) ?_
        refine RD.take 6 rfl (by kernel_rfl) (by kernel_rfl) (by kernel_rfl) (fun w' s' => .assign rfl) rfl rfl ?_
        refine RD.done (by kernel_rfl) (RC.back ?_)
        refine RC.done (rs := [.cell 2 77, .tmp 3]) (vs := [_, _]) rfl rfl ⟨⟨_, rfl, .inr ⟨(⟨0, rt0, some ⟨b_12, 0, none⟩, n, n, some ⟨b_14, 0, none⟩, n, n⟩ : RcP).cells, sh77, hb_2.row, rfl⟩⟩, rfl, trivial⟩ ?_
        -- end 2
        exact ⟨S, _, _, rfl, (UpN.one ge_12).or (UpN.one ge_14), (hb_12.ft.and hb_14.ft).imp fun u h => ⟨b_12, b_14, rfl, h.1, h.2⟩⟩
/-- a table of versions that is new -/
def TbNew (n : Nat) (u : World) (t : TbP) (x : RcP) : Prop := ∃ b1 b2 b3, t = ⟨some ⟨b1, 0, none⟩, 1, 1, some ⟨b2, 0, none⟩, n, n, some ⟨b3, 0, none⟩, 8, 8⟩ ∧ Has u b1 x.cells 77 ∧ Has u b2 (List.replicate n [.int .i64 (-1)]).flatten 3 ∧ Has u b3 (List.replicate 8 [.int .i64 (-1)]).flatten 3 ∧ RcNew n u x
set_option maxHeartbeats 4000000 in
theorem c_tNew (n : Nat) (hn : 1 ≤ n ∧ n ≤ 8) (w : World) :
    FC Tryz.prog 189 [.int .i64 (n : Int)] w (fun v w' => Sub w w' ∧ ∃ t x M, v = .tuple #[.agg t.cells.toArray, .int .i64 0] ∧ UpN w M ∧ Ft M (fun u => TbNew n u t x) w') := by
  refine FC.intro Tryz.func189 rfl Tryz.ntmps189 rfl ?_
  have S := Sub.refl w
  refine RC.seq ?_
  refine RC.region rfl ?_
  refine RL.alloc ze59 rfl rfl (fun b_2 w_2 e_2 z_2 hb_2 s_2 => ?_)
  have ge_2 := S.le e_2
  have S := S.trans s_2
  refine RL.ev (.assign rfl) rfl rfl ?_
  refine RL.nil (RC.back ?_)
  refine RC.seq ?_
  refine RC.region rfl ?_
  refine RL.ev (.move rfl) rfl rfl ?_
  refine RL.call rfl ok242 (c_bBegin n hn w_2) rfl rfl ?_
  rintro _ w1 ⟨s2, x, M, rfl, up, h1⟩
  have d_h1_b_2 := upNe up (fun _ (h : False) => h.elim) hb_2.lt
  have up := up.low S.size
  have S := S.trans s2
  have hb_2 := hb_2.sub s2
  refine RL.ev (.move rfl) rfl rfl ?_
  refine RL.ev (.extract rfl rfl) rfl rfl ?_
  refine RL.ev (.extract rfl rfl) rfl rfl ?_
  refine RL.alloc ze77 rfl rfl (fun b_4 w_4 e_4 z_4 hb_4 s_4 => ?_)
  have ge_4 := S.le e_4
  have n_2__4 := hb_2.ne e_4
  have d_h1_b_4 := h1.neNew e_4
  have S := S.trans s_4
  have hb_2 := hb_2.sub s_4
  have h1 := h1.sub s_4
  refine RL.store sh77 rfl rfl rfl hb_4 (by exact Nat.le_of_ble_eq_true rfl) (by rfl) rfl (fun w3 z3 hb_4 a3 => ?_)
  have S := S.upd a3 ge_4
  have hb_2 := hb_2.upd a3 n_2__4
  have h1 := h1.updD a3 d_h1_b_4
  have hb_4 : Has w3 b_4 (x.cells) _ := hb_4.now (by kernel_rfl)
  refine RL.ev (.assign rfl) rfl rfl ?_
  refine RL.nil (RC.back ?_)
  refine RC.seq ?_
  refine RC.seq ?_
  refine RC.region rfl ?_
  refine RL.ev (.move rfl) rfl rfl ?_
  refine RL.ev (.bin rfl rfl rfl) rfl rfl ?_
  refine RL.nil (RC.back ?_)
  refine RC.cond_dec rfl (fun h4 => ?_) (fun h4 => ?_)
  ·
    exact absurd rfl h4
  ·
    refine RC.skip (RC.back ?_)
    refine RC.seq ?_
    refine RC.drawD (fun k => k = b_2) [8] w3.heap.size 10 rfl rfl mxo (fun w5 s6 => ?_)
    have hNN : ∀ k, ((k = b_2) ∨ w3.heap.size ≤ k) → w.heap.size ≤ k := fun k e => e.elim (fun e => e ▸ ge_2) (fun e => Nat.le_trans S.size e)
    have ent_S := S.size
    have hN0 : ∀ k, w3.heap.size ≤ k → w.heap.size ≤ k := fun k e => Nat.le_trans S.size e
    have ltD_b_2 := hb_2.lt
    have ltD_h1 := fun k hk => (h1.ge k hk).2
    have ltD_b_4 := hb_4.lt
    have szD := Nat.le_refl w3.heap.size
    have S := S.trans s6
    have hb_2 := hb_2.sub s6
    have h1 := h1.sub s6
    have hb_4 := hb_4.sub s6
    have szD := Nat.le_trans szD s6.size
    refine RD.take 0 rfl (by kernel_rfl) (by kernel_rfl) (by kernel_rfl) (fun w' s' => .loadR (x.cells) sh77 rfl (hb_4.step s' (fun e => e.elim (fun e => n_2__4.symm e) (fun e => Nat.not_le.2 ltD_b_4 e))).row rfl) rfl rfl ?_
    refine RD.take 3 rfl (by kernel_rfl) (by kernel_rfl) (by kernel_rfl) (fun w' s' => .move rfl) rfl rfl ?_
    refine RD.all [1, 2, 5] (by kernel_rfl) rfl (RDs.cons rfl ?_ (RDs.cons rfl ?_ (RDs.cons rfl ?_ (RDs.nil))))
    ·
      refine RL.buildSlice1 sl57 _ ze77 rfl rfl rfl rfl rfl rfl rfl (fun b_16 w_16 e_16 z_16 hb_16 s_16 => ?_)
      have fr_b_16 : w3.heap.size ≤ b_16 := by rw [e_16]; exact szD
      have ge_16 := S.le e_16
      have n_2__16 := hb_2.ne e_16
      have n_4__16 := hb_4.ne e_16
      have d_h1_b_16 := h1.neNew e_16
      have S := S.trans s_16
      have hb_2 := hb_2.sub s_16
      have h1 := h1.sub s_16
      have hb_4 := hb_4.sub s_16
      have szD := Nat.le_trans szD s_16.size
      refine RD.back s_16.agr ?_
      refine RD.all [2, 5] (by kernel_rfl) rfl (RDs.cons rfl ?_ (RDs.cons rfl ?_ (RDs.nil)))
      ·
        refine RL.buildSlice1 sl24 _ ze3 rfl rfl rfl rfl rfl rfl rfl (fun b_17 w_17 e_17 z_17 hb_17 s_17 => ?_)
        have fr_b_17 : w3.heap.size ≤ b_17 := by rw [e_17]; exact szD
        have ge_17 := S.le e_17
        have n_2__17 := hb_2.ne e_17
        have n_4__17 := hb_4.ne e_17
        have n_16__17 := hb_16.ne e_17
        have d_h1_b_17 := h1.neNew e_17
        have S := S.trans s_17
        have hb_2 := hb_2.sub s_17
        have h1 := h1.sub s_17
        have hb_4 := hb_4.sub s_17
        have szD := Nat.le_trans szD s_17.size
        have hb_16 := hb_16.sub s_17
        refine RD.back s_17.agr ?_
        refine RD.all [4, 5] (by kernel_rfl) rfl (RDs.cons rfl ?_ (RDs.cons rfl ?_ (RDs.nil)))
        ·
          refine RL.call rfl ok243 (c_repI n (by omega) b_17 w_17 hb_17) rfl rfl ?_
          rintro _ w7 ⟨s8, b3, rfl, ge3, h3⟩
          have n3_2 : b3 ≠ b_2 := (by have := hb_2.lt; omega)
          have ge3 := Nat.le_trans S.size ge3
          have S := S.trans s8
          have hb_2 := hb_2.sub s8
          have h1 := h1.sub s8
          have hb_4 := hb_4.sub s8
          have szD := Nat.le_trans szD s8.size
          have hb_16 := hb_16.sub s8
          have hb_17 := hb_17.sub s8
          refine RD.back s8.agr ?_
          refine RD.all [5] (by kernel_rfl) rfl (RDs.cons rfl ?_ (RDs.nil))
          refine RL.buildSlice1 sl24 _ ze3 rfl rfl rfl rfl rfl rfl rfl (fun b_20 w_20 e_20 z_20 hb_20 s_20 => ?_)
          have fr_b_20 : w3.heap.size ≤ b_20 := by rw [e_20]; exact szD
          have ge_20 := S.le e_20
          have n_2__20 := hb_2.ne e_20
          have n_4__20 := hb_4.ne e_20
          have n_16__20 := hb_16.ne e_20
          have n_17__20 := hb_17.ne e_20
          have n3__20 := h3.ne e_20
          have d_h1_b_20 := h1.neNew e_20
          have S := S.trans s_20
          have hb_2 := hb_2.sub s_20
          have h1 := h1.sub s_20
          have hb_4 := hb_4.sub s_20
          have szD := Nat.le_trans szD s_20.size
          have hb_16 := hb_16.sub s_20
          have hb_17 := hb_17.sub s_20
          have h3 := h3.sub s_20
          refine RD.back s_20.agr ?_
          refine RD.all [6] (by kernel_rfl) rfl (RDs.cons rfl ?_ (RDs.nil))
          refine RL.call rfl ok243 (c_repI 8 (by omega) b_20 w_20 hb_20) rfl rfl ?_
          rintro _ w9 ⟨s10, b4, rfl, ge4, h4⟩
          have n4_2 : b4 ≠ b_2 := (by have := hb_2.lt; omega)
          have ge4 := Nat.le_trans S.size ge4
          have S := S.trans s10
          have hb_2 := hb_2.sub s10
          have h1 := h1.sub s10
          have hb_4 := hb_4.sub s10
          have szD := Nat.le_trans szD s10.size
          have hb_16 := hb_16.sub s10
          have hb_17 := hb_17.sub s10
          have h3 := h3.sub s10
          have hb_20 := hb_20.sub s10
          refine RD.back s10.agr ?_
          refine RD.take 7 rfl (by kernel_rfl) (by kernel_rfl) (by kernel_rfl) (fun w' s' => .buildS ze59 pl59 rfl rfl) rfl rfl ?_
          refine RD.all [8] (by kernel_rfl) rfl (RDs.cons rfl ?_ (RDs.nil))
          refine RL.store sh59 rfl rfl rfl hb_2 (by exact Nat.le_of_ble_eq_true rfl) (by rfl) rfl (fun w11 z11 hb_2 a11 => ?_)
          have S := S.upd a11 ge_2
          have h1 := h1.updD a11 d_h1_b_2
          have hb_4 := hb_4.upd a11 n_2__4.symm
          have szD := Nat.le_trans szD a11.size
          have hb_16 := hb_16.upd a11 n_2__16.symm
          have hb_17 := hb_17.upd a11 n_2__17.symm
          have h3 := h3.upd a11 n3_2
          have hb_20 := hb_20.upd a11 n_2__20.symm
          have h4 := h4.upd a11 n4_2
          have hb_2 : Has w11 b_2 ((⟨some ⟨b_16, 0, none⟩, 1, 1, some ⟨b3, 0, none⟩, n, n, some ⟨b4, 0, none⟩, 8, 8⟩ : TbP).cells) _ := hb_2.now (by kernel_rfl)
          refine RD.backW rfl (a11.mono fun k _ e => e ▸ (.inl (rfl))) ?_
          refine RD.take 9 rfl (by kernel_rfl) (by kernel_rfl) (by kernel_rfl) (fun w' s' => .assign rfl) rfl rfl ?_
          refine RD.done (by kernel_rfl) (RC.back ?_)
          refine RC.done (rs := [.cell 2 59, .tmp 3]) (vs := [_, _]) rfl rfl ⟨⟨_, rfl, .inr ⟨(⟨some ⟨b_16, 0, none⟩, 1, 1, some ⟨b3, 0, none⟩, n, n, some ⟨b4, 0, none⟩, 8, 8⟩ : TbP).cells, sh59, hb_2.row, rfl⟩⟩, rfl, trivial⟩ ?_
          -- end 1
          exact ⟨S, _, x, _, rfl, (UpN.one ge_16).or ((UpN.one ge3).or ((UpN.one ge4).or up)), (hb_16.ft.and (h3.ft.and (h4.ft.and h1))).imp fun u h => ⟨b_16, b3, b4, rfl, h.1, h.2.1, h.2.2.1, h.2.2.2⟩⟩
        ·
          refine RL.buildSlice1 sl24 _ ze3 rfl rfl rfl rfl rfl rfl rfl (fun b_20 w_20 e_20 z_20 hb_20 s_20 => ?_)
          have fr_b_20 : w3.heap.size ≤ b_20 := by rw [e_20]; exact szD
          have ge_20 := S.le e_20
          have n_2__20 := hb_2.ne e_20
          have n_4__20 := hb_4.ne e_20
          have n_16__20 := hb_16.ne e_20
          have n_17__20 := hb_17.ne e_20
          have d_h1_b_20 := h1.neNew e_20
          have S := S.trans s_20
          have hb_2 := hb_2.sub s_20
          have h1 := h1.sub s_20
          have hb_4 := hb_4.sub s_20
          have szD := Nat.le_trans szD s_20.size
          have hb_16 := hb_16.sub s_20
          have hb_17 := hb_17.sub s_20
          refine RD.back s_20.agr ?_
          refine RD.all [4] (by kernel_rfl) rfl (RDs.cons rfl ?_ (RDs.nil))
          refine RL.call rfl ok243 (c_repI n (by omega) b_17 w_20 hb_17) rfl rfl ?_
          rintro _ w12 ⟨s13, b3, rfl, ge3, h3⟩
          have n3_2 : b3 ≠ b_2 := (by have := hb_2.lt; omega)
          have ge3 := Nat.le_trans S.size ge3
          have S := S.trans s13
          have hb_2 := hb_2.sub s13
          have h1 := h1.sub s13
          have hb_4 := hb_4.sub s13
          have szD := Nat.le_trans szD s13.size
          have hb_16 := hb_16.sub s13
          have hb_17 := hb_17.sub s13
          have hb_20 := hb_20.sub s13
          refine RD.back s13.agr ?_
          refine RD.all [6] (by kernel_rfl) rfl (RDs.cons rfl ?_ (RDs.nil))
          refine RL.call rfl ok243 (c_repI 8 (by omega) b_20 w12 hb_20) rfl rfl ?_
          rintro _ w14 ⟨s15, b4, rfl, ge4, h4⟩
          have n4_2 : b4 ≠ b_2 := (by have := hb_2.lt; omega)
          have ge4 := Nat.le_trans S.size ge4
          have S := S.trans s15
          have hb_2 := hb_2.sub s15
          have h1 := h1.sub s15
          have hb_4 := hb_4.sub s15
          have szD := Nat.le_trans szD s15.size
          have hb_16 := hb_16.sub s15
          have hb_17 := hb_17.sub s15
          have hb_20 := hb_20.sub s15
          have h3 := h3.sub s15
          refine RD.back s15.agr ?_
          refine RD.take 7 rfl (by kernel_rfl) (by kernel_rfl) (by kernel_rfl) (fun w' s' => .buildS ze59 pl59 rfl rfl) rfl rfl ?_
          refine RD.all [8] (by kernel_rfl) rfl (RDs.cons rfl ?_ (RDs.nil))
          refine RL.store sh59 rfl rfl rfl hb_2 (by exact Nat.le_of_ble_eq_true rfl) (by rfl) rfl (fun w16 z16 hb_2 a16 => ?_)
          have S := S.upd a16 ge_2
          have h1 := h1.updD a16 d_h1_b_2
          have hb_4 := hb_4.upd a16 n_2__4.symm
          have szD := Nat.le_trans szD a16.size
          have hb_16 := hb_16.upd a16 n_2__16.symm
          have hb_17 := hb_17.upd a16 n_2__17.symm
          have hb_20 := hb_20.upd a16 n_2__20.symm
          have h3 := h3.upd a16 n3_2
          have h4 := h4.upd a16 n4_2
          have hb_2 : Has w16 b_2 ((⟨some ⟨b_16, 0, none⟩, 1, 1, some ⟨b3, 0, none⟩, n, n, some ⟨b4, 0, none⟩, 8, 8⟩ : TbP).cells) _ := hb_2.now (by kernel_rfl)
          refine RD.backW rfl (a16.mono fun k _ e => e ▸ (.inl (rfl))) ?_
          refine RD.take 9 rfl (by kernel_rfl) (by kernel_rfl) (by kernel_rfl) (fun w' s' => .assign rfl) rfl rfl ?_
          refine RD.done (by kernel_rfl) (RC.back ?_)
          refine RC.done (rs := [.cell 2 59, .tmp 3]) (vs := [_, _]) rfl rfl ⟨⟨_, rfl, .inr ⟨(⟨some ⟨b_16, 0, none⟩, 1, 1, some ⟨b3, 0, none⟩, n, n, some ⟨b4, 0, none⟩, 8, 8⟩ : TbP).cells, sh59, hb_2.row, rfl⟩⟩, rfl, trivial⟩ ?_
          -- end 2
          exact ⟨S, _, x, _, rfl, (UpN.one ge_16).or ((UpN.one ge3).or ((UpN.one ge4).or up)), (hb_16.ft.and (h3.ft.and (h4.ft.and h1))).imp fun u h => ⟨b_16, b3, b4, rfl, h.1, h.2.1, h.2.2.1, h.2.2.2⟩⟩
      ·
        refine RL.buildSlice1 sl24 _ ze3 rfl rfl rfl rfl rfl rfl rfl (fun b_20 w_20 e_20 z_20 hb_20 s_20 => ?_)
        have fr_b_20 : w3.heap.size ≤ b_20 := by rw [e_20]; exact szD
        have ge_20 := S.le e_20
        have n_2__20 := hb_2.ne e_20
        have n_4__20 := hb_4.ne e_20
        have n_16__20 := hb_16.ne e_20
        have d_h1_b_20 := h1.neNew e_20
        have S := S.trans s_20
        have hb_2 := hb_2.sub s_20
        have h1 := h1.sub s_20
        have hb_4 := hb_4.sub s_20
        have szD := Nat.le_trans szD s_20.size
        have hb_16 := hb_16.sub s_20
        refine RD.back s_20.agr ?_
        refine RD.all [2] (by kernel_rfl) rfl (RDs.cons rfl ?_ (RDs.nil))
        refine RL.buildSlice1 sl24 _ ze3 rfl rfl rfl rfl rfl rfl rfl (fun b_17 w_17 e_17 z_17 hb_17 s_17 => ?_)
        have fr_b_17 : w3.heap.size ≤ b_17 := by rw [e_17]; exact szD
        have ge_17 := S.le e_17
        have n_2__17 := hb_2.ne e_17
        have n_4__17 := hb_4.ne e_17
        have n_16__17 := hb_16.ne e_17
        have n_20__17 := hb_20.ne e_17
        have d_h1_b_17 := h1.neNew e_17
        have S := S.trans s_17
        have hb_2 := hb_2.sub s_17
        have h1 := h1.sub s_17
        have hb_4 := hb_4.sub s_17
        have szD := Nat.le_trans szD s_17.size
        have hb_16 := hb_16.sub s_17
        have hb_20 := hb_20.sub s_17
        refine RD.back s_17.agr ?_
        refine RD.all [4] (by kernel_rfl) rfl (RDs.cons rfl ?_ (RDs.nil))
        refine RL.call rfl ok243 (c_repI n (by omega) b_17 w_17 hb_17) rfl rfl ?_
        rintro _ w17 ⟨s18, b3, rfl, ge3, h3⟩
        have n3_2 : b3 ≠ b_2 := (by have := hb_2.lt; omega)
        have ge3 := Nat.le_trans S.size ge3
        have S := S.trans s18
        have hb_2 := hb_2.sub s18
        have h1 := h1.sub s18
        have hb_4 := hb_4.sub s18
        have szD := Nat.le_trans szD s18.size
        have hb_16 := hb_16.sub s18
        have hb_20 := hb_20.sub s18
        have hb_17 := hb_17.sub s18
        refine RD.back s18.agr ?_
        refine RD.all [6] (by kernel_rfl) rfl (RDs.cons rfl ?_ (RDs.nil))
        refine RL.call rfl ok243 (c_repI 8 (by omega) b_20 w17 hb_20) rfl rfl ?_
        rintro _ w19 ⟨s20, b4, rfl, ge4, h4⟩
        have n4_2 : b4 ≠ b_2 := (by have := hb_2.lt; omega)
        have ge4 := Nat.le_trans S.size ge4
        have S := S.trans s20
        have hb_2 := hb_2.sub s20
        have h1 := h1.sub s20
        have hb_4 := hb_4.sub s20
        have szD := Nat.le_trans szD s20.size
        have hb_16 := hb_16.sub s20
        have hb_20 := hb_20.sub s20
        have hb_17 := hb_17.sub s20
        have h3 := h3.sub s20
        refine RD.back s20.agr ?_
        refine RD.take 7 rfl (by kernel_rfl) (by kernel_rfl) (by kernel_rfl) (fun w' s' => .buildS ze59 pl59 rfl rfl) rfl rfl ?_
        refine RD.all [8] (by kernel_rfl) rfl (RDs.cons rfl ?_ (RDs.nil))
        refine RL.store sh59 rfl rfl rfl hb_2 (by exact Nat.le_of_ble_eq_true rfl) (by rfl) rfl (fun w21 z21 hb_2 a21 => ?_)
        have S := S.upd a21 ge_2
        have h1 := h1.updD a21 d_h1_b_2
        have hb_4 := hb_4.upd a21 n_2__4.symm
        have szD := Nat.le_trans szD a21.size
        have hb_16 := hb_16.upd a21 n_2__16.symm
        have hb_20 := hb_20.upd a21 n_2__20.symm
        have hb_17 := hb_17.upd a21 n_2__17.symm
        have h3 := h3.upd a21 n3_2
        have h4 := h4.upd a21 n4_2
        have hb_2 : Has w21 b_2 ((⟨some ⟨b_16, 0, none⟩, 1, 1, some ⟨b3, 0, none⟩, n, n, some ⟨b4, 0, none⟩, 8, 8⟩ : TbP).cells) _ := hb_2.now (by kernel_rfl)
        refine RD.backW rfl (a21.mono fun k _ e => e ▸ (.inl (rfl))) ?_
        refine RD.take 9 rfl (by kernel_rfl) (by kernel_rfl) (by kernel_rfl) (fun w' s' => .assign rfl) rfl rfl ?_
        refine RD.done (by kernel_rfl) (RC.back ?_)
        refine RC.done (rs := [.cell 2 59, .tmp 3]) (vs := [_, _]) rfl rfl ⟨⟨_, rfl, .inr ⟨(⟨some ⟨b_16, 0, none⟩, 1, 1, some ⟨b3, 0, none⟩, n, n, some ⟨b4, 0, none⟩, 8, 8⟩ : TbP).cells, sh59, hb_2.row, rfl⟩⟩, rfl, trivial⟩ ?_
        -- end 3
        exact ⟨S, _, x, _, rfl, (UpN.one ge_16).or ((UpN.one ge3).or ((UpN.one ge4).or up)), (hb_16.ft.and (h3.ft.and (h4.ft.and h1))).imp fun u h => ⟨b_16, b3, b4, rfl, h.1, h.2.1, h.2.2.1, h.2.2.2⟩⟩
    ·
      refine RL.buildSlice1 sl24 _ ze3 rfl rfl rfl rfl rfl rfl rfl (fun b_17 w_17 e_17 z_17 hb_17 s_17 => ?_)
      have fr_b_17 : w3.heap.size ≤ b_17 := by rw [e_17]; exact szD
      have ge_17 := S.le e_17
      have n_2__17 := hb_2.ne e_17
      have n_4__17 := hb_4.ne e_17
      have d_h1_b_17 := h1.neNew e_17
      have S := S.trans s_17
      have hb_2 := hb_2.sub s_17
      have h1 := h1.sub s_17
      have hb_4 := hb_4.sub s_17
      have szD := Nat.le_trans szD s_17.size
      refine RD.back s_17.agr ?_
      refine RD.all [1, 4, 5] (by kernel_rfl) rfl (RDs.cons rfl ?_ (RDs.cons rfl ?_ (RDs.cons rfl ?_ (RDs.nil))))
      ·
        refine RL.buildSlice1 sl57 _ ze77 rfl rfl rfl rfl rfl rfl rfl (fun b_16 w_16 e_16 z_16 hb_16 s_16 => ?_)
        have fr_b_16 : w3.heap.size ≤ b_16 := by rw [e_16]; exact szD
        have ge_16 := S.le e_16
        have n_2__16 := hb_2.ne e_16
        have n_4__16 := hb_4.ne e_16
        have n_17__16 := hb_17.ne e_16
        have d_h1_b_16 := h1.neNew e_16
        have S := S.trans s_16
        have hb_2 := hb_2.sub s_16
        have h1 := h1.sub s_16
        have hb_4 := hb_4.sub s_16
        have szD := Nat.le_trans szD s_16.size
        have hb_17 := hb_17.sub s_16
        refine RD.back s_16.agr ?_
        refine RD.all [4, 5] (by kernel_rfl) rfl (RDs.cons rfl ?_ (RDs.cons rfl ?_ (RDs.nil)))
        ·
          refine RL.call rfl ok243 (c_repI n (by omega) b_17 w_16 hb_17) rfl rfl ?_
          rintro _ w22 ⟨s23, b3, rfl, ge3, h3⟩
          have n3_2 : b3 ≠ b_2 := (by have := hb_2.lt; omega)
          have ge3 := Nat.le_trans S.size ge3
          have S := S.trans s23
          have hb_2 := hb_2.sub s23
          have h1 := h1.sub s23
          have hb_4 := hb_4.sub s23
          have szD := Nat.le_trans szD s23.size
          have hb_17 := hb_17.sub s23
          have hb_16 := hb_16.sub s23
          refine RD.back s23.agr ?_
          refine RD.all [5] (by kernel_rfl) rfl (RDs.cons rfl ?_ (RDs.nil))
          refine RL.buildSlice1 sl24 _ ze3 rfl rfl rfl rfl rfl rfl rfl (fun b_20 w_20 e_20 z_20 hb_20 s_20 => ?_)
          have fr_b_20 : w3.heap.size ≤ b_20 := by rw [e_20]; exact szD
          have ge_20 := S.le e_20
          have n_2__20 := hb_2.ne e_20
          have n_4__20 := hb_4.ne e_20
          have n_17__20 := hb_17.ne e_20
          have n_16__20 := hb_16.ne e_20
          have n3__20 := h3.ne e_20
          have d_h1_b_20 := h1.neNew e_20
          have S := S.trans s_20
          have hb_2 := hb_2.sub s_20
          have h1 := h1.sub s_20
          have hb_4 := hb_4.sub s_20
          have szD := Nat.le_trans szD s_20.size
          have hb_17 := hb_17.sub s_20
          have hb_16 := hb_16.sub s_20
          have h3 := h3.sub s_20
          refine RD.back s_20.agr ?_
          refine RD.all [6] (by kernel_rfl) rfl (RDs.cons rfl ?_ (RDs.nil))
          refine RL.call rfl ok243 (c_repI 8 (by omega) b_20 w_20 hb_20) rfl rfl ?_
          rintro _ w24 ⟨s25, b4, rfl, ge4, h4⟩
          have n4_2 : b4 ≠ b_2 := (by have := hb_2.lt; omega)
          have ge4 := Nat.le_trans S.size ge4
          have S := S.trans s25
          have hb_2 := hb_2.sub s25
          have h1 := h1.sub s25
          have hb_4 := hb_4.sub s25
          have szD := Nat.le_trans szD s25.size
          have hb_17 := hb_17.sub s25
          have hb_16 := hb_16.sub s25
          have h3 := h3.sub s25
          have hb_20 := hb_20.sub s25
          refine RD.back s25.agr ?_
          refine RD.take 7 rfl (by kernel_rfl) (by kernel_rfl) (by kernel_rfl) (fun w' s' => .buildS ze59 pl59 rfl rfl) rfl rfl ?_
          refine RD.all [8] (by kernel_rfl) rfl (RDs.cons rfl ?_ (RDs.nil))
          refine RL.store sh59 rfl rfl rfl hb_2 (by exact Nat.le_of_ble_eq_true rfl) (by rfl) rfl (fun w26 z26 hb_2 a26 => ?_)
          have S := S.upd a26 ge_2
          have h1 := h1.updD a26 d_h1_b_2
          have hb_4 := hb_4.upd a26 n_2__4.symm
          have szD := Nat.le_trans szD a26.size
          have hb_17 := hb_17.upd a26 n_2__17.symm
          have hb_16 := hb_16.upd a26 n_2__16.symm
          have h3 := h3.upd a26 n3_2
          have hb_20 := hb_20.upd a26 n_2__20.symm
          have h4 := h4.upd a26 n4_2
          have hb_2 : Has w26 b_2 ((⟨some ⟨b_16, 0, none⟩, 1, 1, some ⟨b3, 0, none⟩, n, n, some ⟨b4, 0, none⟩, 8, 8⟩ : TbP).cells) _ := hb_2.now (by kernel_rfl)
          refine RD.backW rfl (a26.mono fun k _ e => e ▸ (.inl (rfl))) ?_
          refine RD.take 9 rfl (by kernel_rfl) (by kernel_rfl) (by kernel_rfl) (fun w' s' => .assign rfl) rfl rfl ?_
          refine RD.done (by kernel_rfl) (RC.back ?_)
          refine RC.done (rs := [.cell 2 59, .tmp 3]) (vs := [_, _]) rfl rfl ⟨⟨_, rfl, .inr ⟨(⟨some ⟨b_16, 0, none⟩, 1, 1, some ⟨b3, 0, none⟩, n, n, some ⟨b4, 0, none⟩, 8, 8⟩ : TbP).cells, sh59, hb_2.row, rfl⟩⟩, rfl, trivial⟩ ?_
          -- end 4
          exact ⟨S, _, x, _, rfl, (UpN.one ge_16).or ((UpN.one ge3).or ((UpN.one ge4).or up)), (hb_16.ft.and (h3.ft.and (h4.ft.and h1))).imp fun u h => ⟨b_16, b3, b4, rfl, h.1, h.2.1, h.2.2.1, h.2.2.2⟩⟩
        ·
          refine RL.buildSlice1 sl24 _ ze3 rfl rfl rfl rfl rfl rfl rfl (fun b_20 w_20 e_20 z_20 hb_20 s_20 => ?_)
          have fr_b_20 : w3.heap.size ≤ b_20 := by rw [e_20]; exact szD
          have ge_20 := S.le e_20
          have n_2__20 := hb_2.ne e_20
          have n_4__20 := hb_4.ne e_20
          have n_17__20 := hb_17.ne e_20
          have n_16__20 := hb_16.ne e_20
          have d_h1_b_20 := h1.neNew e_20
          have S := S.trans s_20
          have hb_2 := hb_2.sub s_20
          have h1 := h1.sub s_20
          have hb_4 := hb_4.sub s_20
          have szD := Nat.le_trans szD s_20.size
          have hb_17 := hb_17.sub s_20
          have hb_16 := hb_16.sub s_20
          refine RD.back s_20.agr ?_
          refine RD.all [4] (by kernel_rfl) rfl (RDs.cons rfl ?_ (RDs.nil))
          refine RL.call rfl ok243 (c_repI n (by omega) b_17 w_20 hb_17) rfl rfl ?_
          rintro _ w27 ⟨s28, b3, rfl, ge3, h3⟩
          have n3_2 : b3 ≠ b_2 := (by have := hb_2.lt; omega)
          have ge3 := Nat.le_trans S.size ge3
          have S := S.trans s28
          have hb_2 := hb_2.sub s28
          have h1 := h1.sub s28
          have hb_4 := hb_4.sub s28
          have szD := Nat.le_trans szD s28.size
          have hb_17 := hb_17.sub s28
          have hb_16 := hb_16.sub s28
          have hb_20 := hb_20.sub s28
          refine RD.back s28.agr ?_
          refine RD.all [6] (by kernel_rfl) rfl (RDs.cons rfl ?_ (RDs.nil))
          refine RL.call rfl ok243 (c_repI 8 (by omega) b_20 w27 hb_20) rfl rfl ?_
          rintro _ w29 ⟨s30, b4, rfl, ge4, h4⟩
          have n4_2 : b4 ≠ b_2 := (by have := hb_2.lt; omega)
          have ge4 := Nat.le_trans S.size ge4
          have S := S.trans s30
          have hb_2 := hb_2.sub s30
          have h1 := h1.sub s30
          have hb_4 := hb_4.sub s30
          have szD := Nat.le_trans szD s30.size
          have hb_17 := hb_17.sub s30
          have hb_16 := hb_16.sub s30
          have hb_20 := hb_20.sub s30
          have h3 := h3.sub s30
          refine RD.back s30.agr ?_
          refine RD.take 7 rfl (by kernel_rfl) (by kernel_rfl) (by kernel_rfl) (fun w' s' => .buildS ze59 pl59 rfl rfl) rfl rfl ?_
          refine RD.all [8] (by kernel_rfl) rfl (RDs.cons rfl ?_ (RDs.nil))
          refine RL.store sh59 rfl rfl rfl hb_2 (by exact Nat.le_of_ble_eq_true rfl) (by rfl) rfl (fun w31 z31 hb_2 a31 => ?_)
          have S := S.upd a31 ge_2
          have h1 := h1.updD a31 d_h1_b_2
          have hb_4 := hb_4.upd a31 n_2__4.symm
          have szD := Nat.le_trans szD a31.size
          have hb_17 := hb_17.upd a31 n_2__17.symm
          have hb_16 := hb_16.upd a31 n_2__16.symm
          have hb_20 := hb_20.upd a31 n_2__20.symm
          have h3 := h3.upd a31 n3_2
          have h4 := h4.upd a31 n4_2
          have hb_2 : Has w31 b_2 ((⟨some ⟨b_16, 0, none⟩, 1, 1, some ⟨b3, 0, none⟩, n, n, some ⟨b4, 0, none⟩, 8, 8⟩ : TbP).cells) _ := hb_2.now (by kernel_rfl)
          refine RD.backW rfl (a31.mono fun k _ e => e ▸ (.inl (rfl))) ?_
          refine RD.take 9 rfl (by kernel_rfl) (by kernel_rfl) (by kernel_rfl) (fun w' s' => .assign rfl) rfl rfl ?_
          refine RD.done (by kernel_rfl) (RC.back ?_)
          refine RC.done (rs := [.cell 2 59, .tmp 3]) (vs := [_, _]) rfl rfl ⟨⟨_, rfl, .inr ⟨(⟨some ⟨b_16, 0, none⟩, 1, 1, some ⟨b3, 0, none⟩, n, n, some ⟨b4, 0, none⟩, 8, 8⟩ : TbP).cells, sh59, hb_2.row, rfl⟩⟩, rfl, trivial⟩ ?_
          -- end 5
          exact ⟨S, _, x, _, rfl, (UpN.one ge_16).or ((UpN.one ge3).or ((UpN.one ge4).or up)), (hb_16.ft.and (h3.ft.and (h4.ft.and h1))).imp fun u h => ⟨b_16, b3, b4, rfl, h.1, h.2.1, h.2.2.1, h.2.2.2⟩⟩
      ·
        refine RL.call rfl ok243 (c_repI n (by omega) b_17 w_17 hb_17) rfl rfl ?_
        rintro _ w32 ⟨s33, b3, rfl, ge3, h3⟩
        have n3_2 : b3 ≠ b_2 := (by have := hb_2.lt; omega)
        have ge3 := Nat.le_trans S.size ge3
        have S := S.trans s33
        have hb_2 := hb_2.sub s33
        have h1 := h1.sub s33
        have hb_4 := hb_4.sub s33
        have szD := Nat.le_trans szD s33.size
        have hb_17 := hb_17.sub s33
        refine RD.back s33.agr ?_
        refine RD.all [1, 5] (by kernel_rfl) rfl (RDs.cons rfl ?_ (RDs.cons rfl ?_ (RDs.nil)))
        ·
          refine RL.buildSlice1 sl57 _ ze77 rfl rfl rfl rfl rfl rfl rfl (fun b_16 w_16 e_16 z_16 hb_16 s_16 => ?_)
          have fr_b_16 : w3.heap.size ≤ b_16 := by rw [e_16]; exact szD
          have ge_16 := S.le e_16
          have n_2__16 := hb_2.ne e_16
          have n_4__16 := hb_4.ne e_16
          have n_17__16 := hb_17.ne e_16
          have n3__16 := h3.ne e_16
          have d_h1_b_16 := h1.neNew e_16
          have S := S.trans s_16
          have hb_2 := hb_2.sub s_16
          have h1 := h1.sub s_16
          have hb_4 := hb_4.sub s_16
          have szD := Nat.le_trans szD s_16.size
          have hb_17 := hb_17.sub s_16
          have h3 := h3.sub s_16
          refine RD.back s_16.agr ?_
          refine RD.all [5] (by kernel_rfl) rfl (RDs.cons rfl ?_ (RDs.nil))
          refine RL.buildSlice1 sl24 _ ze3 rfl rfl rfl rfl rfl rfl rfl (fun b_20 w_20 e_20 z_20 hb_20 s_20 => ?_)
          have fr_b_20 : w3.heap.size ≤ b_20 := by rw [e_20]; exact szD
          have ge_20 := S.le e_20
          have n_2__20 := hb_2.ne e_20
          have n_4__20 := hb_4.ne e_20
          have n_17__20 := hb_17.ne e_20
          have n3__20 := h3.ne e_20
          have n_16__20 := hb_16.ne e_20
          have d_h1_b_20 := h1.neNew e_20
          have S := S.trans s_20
          have hb_2 := hb_2.sub s_20
          have h1 := h1.sub s_20
          have hb_4 := hb_4.sub s_20
          have szD := Nat.le_trans szD s_20.size
          have hb_17 := hb_17.sub s_20
          have h3 := h3.sub s_20
          have hb_16 := hb_16.sub s_20
          refine RD.back s_20.agr ?_
          refine RD.all [6] (by kernel_rfl) rfl (RDs.cons rfl ?_ (RDs.nil))
          refine RL.call rfl ok243 (c_repI 8 (by omega) b_20 w_20 hb_20) rfl rfl ?_
          rintro _ w34 ⟨s35, b4, rfl, ge4, h4⟩
          have n4_2 : b4 ≠ b_2 := (by have := hb_2.lt; omega)
          have ge4 := Nat.le_trans S.size ge4
          have S := S.trans s35
          have hb_2 := hb_2.sub s35
          have h1 := h1.sub s35
          have hb_4 := hb_4.sub s35
          have szD := Nat.le_trans szD s35.size
          have hb_17 := hb_17.sub s35
          have h3 := h3.sub s35
          have hb_16 := hb_16.sub s35
          have hb_20 := hb_20.sub s35
          refine RD.back s35.agr ?_
          refine RD.take 7 rfl (by kernel_rfl) (by kernel_rfl) (by kernel_rfl) (fun w' s' => .buildS ze59 pl59 rfl rfl) rfl rfl ?_
          refine RD.all [8] (by kernel_rfl) rfl (RDs.cons rfl ?_ (RDs.nil))
          refine RL.store sh59 rfl rfl rfl hb_2 (by exact Nat.le_of_ble_eq_true rfl) (by rfl) rfl (fun w36 z36 hb_2 a36 => ?_)
          have S := S.upd a36 ge_2
          have h1 := h1.updD a36 d_h1_b_2
          have hb_4 := hb_4.upd a36 n_2__4.symm
          have szD := Nat.le_trans szD a36.size
          have hb_17 := hb_17.upd a36 n_2__17.symm
          have h3 := h3.upd a36 n3_2
          have hb_16 := hb_16.upd a36 n_2__16.symm
          have hb_20 := hb_20.upd a36 n_2__20.symm
          have h4 := h4.upd a36 n4_2
          have hb_2 : Has w36 b_2 ((⟨some ⟨b_16, 0, none⟩, 1, 1, some ⟨b3, 0, none⟩, n, n, some ⟨b4, 0, none⟩, 8, 8⟩ : TbP).cells) _ := hb_2.now (by kernel_rfl)
          refine RD.backW rfl (a36.mono fun k _ e => e ▸ (.inl (rfl))) ?_
          refine RD.take 9 rfl (by kernel_rfl) (by kernel_rfl) (by kernel_rfl) (fun w' s' => .assign rfl) rfl rfl ?_
          refine RD.done (by kernel_rfl) (RC.back ?_)
          refine RC.done (rs := [.cell 2 59, .tmp 3]) (vs := [_, _]) rfl rfl ⟨⟨_, rfl, .inr ⟨(⟨some ⟨b_16, 0, none⟩, 1, 1, some ⟨b3, 0, none⟩, n, n, some ⟨b4, 0, none⟩, 8, 8⟩ : TbP).cells, sh59, hb_2.row, rfl⟩⟩, rfl, trivial⟩ ?_
          -- end 6
          exact ⟨S, _, x, _, rfl, (UpN.one ge_16).or ((UpN.one ge3).or ((UpN.one ge4).or up)), (hb_16.ft.and (h3.ft.and (h4.ft.and h1))).imp fun u h => ⟨b_16, b3, b4, rfl, h.1, h.2.1, h.2.2.1, h.2.2.2⟩⟩
        ·
          refine RL.buildSlice1 sl24 _ ze3 rfl rfl rfl rfl rfl rfl rfl (fun b_20 w_20 e_20 z_20 hb_20 s_20 => ?_)
          have fr_b_20 : w3.heap.size ≤ b_20 := by rw [e_20]; exact szD
          have ge_20 := S.le e_20
          have n_2__20 := hb_2.ne e_20
          have n_4__20 := hb_4.ne e_20
          have n_17__20 := hb_17.ne e_20
          have n3__20 := h3.ne e_20
          have d_h1_b_20 := h1.neNew e_20
          have S := S.trans s_20
          have hb_2 := hb_2.sub s_20
          have h1 := h1.sub s_20
          have hb_4 := hb_4.sub s_20
          have szD := Nat.le_trans szD s_20.size
          have hb_17 := hb_17.sub s_20
          have h3 := h3.sub s_20
          refine RD.back s_20.agr ?_
          refine RD.all [1, 6] (by kernel_rfl) rfl (RDs.cons rfl ?_ (RDs.cons rfl ?_ (RDs.nil)))
          ·
            refine RL.buildSlice1 sl57 _ ze77 rfl rfl rfl rfl rfl rfl rfl (fun b_16 w_16 e_16 z_16 hb_16 s_16 => ?_)
            have fr_b_16 : w3.heap.size ≤ b_16 := by rw [e_16]; exact szD
            have ge_16 := S.le e_16
            have n_2__16 := hb_2.ne e_16
            have n_4__16 := hb_4.ne e_16
            have n_17__16 := hb_17.ne e_16
            have n3__16 := h3.ne e_16
            have n_20__16 := hb_20.ne e_16
            have d_h1_b_16 := h1.neNew e_16
            have S := S.trans s_16
            have hb_2 := hb_2.sub s_16
            have h1 := h1.sub s_16
            have hb_4 := hb_4.sub s_16
            have szD := Nat.le_trans szD s_16.size
            have hb_17 := hb_17.sub s_16
            have h3 := h3.sub s_16
            have hb_20 := hb_20.sub s_16
            refine RD.back s_16.agr ?_
            refine RD.all [6] (by kernel_rfl) rfl (RDs.cons rfl ?_ (RDs.nil))
            refine RL.call rfl ok243 (c_repI 8 (by omega) b_20 w_16 hb_20) rfl rfl ?_
            rintro _ w37 ⟨s38, b4, rfl, ge4, h4⟩
            have n4_2 : b4 ≠ b_2 := (by have := hb_2.lt; omega)
            have ge4 := Nat.le_trans S.size ge4
            have S := S.trans s38
            have hb_2 := hb_2.sub s38
            have h1 := h1.sub s38
            have hb_4 := hb_4.sub s38
            have szD := Nat.le_trans szD s38.size
            have hb_17 := hb_17.sub s38
            have h3 := h3.sub s38
            have hb_20 := hb_20.sub s38
            have hb_16 := hb_16.sub s38
            refine RD.back s38.agr ?_
            refine RD.take 7 rfl (by kernel_rfl) (by kernel_rfl) (by kernel_rfl) (fun w' s' => .buildS ze59 pl59 rfl rfl) rfl rfl ?_
            refine RD.all [8] (by kernel_rfl) rfl (RDs.cons rfl ?_ (RDs.nil))
            refine RL.store sh59 rfl rfl rfl hb_2 (by exact Nat.le_of_ble_eq_true rfl) (by rfl) rfl (fun w39 z39 hb_2 a39 => ?_)
            have S := S.upd a39 ge_2
            have h1 := h1.updD a39 d_h1_b_2
            have hb_4 := hb_4.upd a39 n_2__4.symm
            have szD := Nat.le_trans szD a39.size
            have hb_17 := hb_17.upd a39 n_2__17.symm
            have h3 := h3.upd a39 n3_2
            have hb_20 := hb_20.upd a39 n_2__20.symm
            have hb_16 := hb_16.upd a39 n_2__16.symm
            have h4 := h4.upd a39 n4_2
            have hb_2 : Has w39 b_2 ((⟨some ⟨b_16, 0, none⟩, 1, 1, some ⟨b3, 0, none⟩, n, n, some ⟨b4, 0, none⟩, 8, 8⟩ : TbP).cells) _ := hb_2.now (by kernel_rfl)
            refine RD.backW rfl (a39.mono fun k _ e => e ▸ (.inl (rfl))) ?_
            refine RD.take 9 rfl (by kernel_rfl) (by kernel_rfl) (by kernel_rfl) (fun w' s' => .assign rfl) rfl rfl ?_
            refine RD.done (by kernel_rfl) (RC.back ?_)
            refine RC.done (rs := [.cell 2 59, .tmp 3]) (vs := [_, _]) rfl rfl ⟨⟨_, rfl, .inr ⟨(⟨some ⟨b_16, 0, none⟩, 1, 1, some ⟨b3, 0, none⟩, n, n, some ⟨b4, 0, none⟩, 8, 8⟩ : TbP).cells, sh59, hb_2.row, rfl⟩⟩, rfl, trivial⟩ ?_
            -- end 7
            exact ⟨S, _, x, _, rfl, (UpN.one ge_16).or ((UpN.one ge3).or ((UpN.one ge4).or up)), (hb_16.ft.and (h3.ft.and (h4.ft.and h1))).imp fun u h => ⟨b_16, b3, b4, rfl, h.1, h.2.1, h.2.2.1, h.2.2.2⟩⟩
          ·
            refine RL.call rfl ok243 (c_repI 8 (by omega) b_20 w_20 hb_20) rfl rfl ?_
            rintro _ w40 ⟨s41, b4, rfl, ge4, h4⟩
            have n4_2 : b4 ≠ b_2 := (by have := hb_2.lt; omega)
            have ge4 := Nat.le_trans S.size ge4
            have S := S.trans s41
            have hb_2 := hb_2.sub s41
            have h1 := h1.sub s41
            have hb_4 := hb_4.sub s41
            have szD := Nat.le_trans szD s41.size
            have hb_17 := hb_17.sub s41
            have h3 := h3.sub s41
            have hb_20 := hb_20.sub s41
            refine RD.back s41.agr ?_
            refine RD.all [1] (by kernel_rfl) rfl (RDs.cons rfl ?_ (RDs.nil))
            refine RL.buildSlice1 sl57 _ ze77 rfl rfl rfl rfl rfl rfl rfl (fun b_16 w_16 e_16 z_16 hb_16 s_16 => ?_)
            have fr_b_16 : w3.heap.size ≤ b_16 := by rw [e_16]; exact szD
            have ge_16 := S.le e_16
            have n_2__16 := hb_2.ne e_16
            have n_4__16 := hb_4.ne e_16
            have n_17__16 := hb_17.ne e_16
            have n3__16 := h3.ne e_16
            have n_20__16 := hb_20.ne e_16
            have n4__16 := h4.ne e_16
            have d_h1_b_16 := h1.neNew e_16
            have S := S.trans s_16
            have hb_2 := hb_2.sub s_16
            have h1 := h1.sub s_16
            have hb_4 := hb_4.sub s_16
            have szD := Nat.le_trans szD s_16.size
            have hb_17 := hb_17.sub s_16
            have h3 := h3.sub s_16
            have hb_20 := hb_20.sub s_16
            have h4 := h4.sub s_16
            refine RD.back s_16.agr ?_
            refine RD.take 7 rfl (by kernel_rfl) (by kernel_rfl) (by kernel_rfl) (fun w' s' => .buildS ze59 pl59 rfl rfl) rfl rfl ?_
            refine RD.all [8] (by kernel_rfl) rfl (RDs.cons rfl ?_ (RDs.nil))
            refine RL.store sh59 rfl rfl rfl hb_2 (by exact Nat.le_of_ble_eq_true rfl) (by rfl) rfl (fun w42 z42 hb_2 a42 => ?_)
            have S := S.upd a42 ge_2
            have h1 := h1.updD a42 d_h1_b_2
            have hb_4 := hb_4.upd a42 n_2__4.symm
            have szD := Nat.le_trans szD a42.size
            have hb_17 := hb_17.upd a42 n_2__17.symm
            have h3 := h3.upd a42 n3_2
            have hb_20 := hb_20.upd a42 n_2__20.symm
            have h4 := h4.upd a42 n4_2
            have hb_16 := hb_16.upd a42 n_2__16.symm
            have hb_2 : Has w42 b_2 ((⟨some ⟨b_16, 0, none⟩, 1, 1, some ⟨b3, 0, none⟩, n, n, some ⟨b4, 0, none⟩, 8, 8⟩ : TbP).cells) _ := hb_2.now (by kernel_rfl)
            refine RD.backW rfl (a42.mono fun k _ e => e ▸ (.inl (rfl))) ?_
            refine RD.take 9 rfl (by kernel_rfl) (by kernel_rfl) (by kernel_rfl) (fun w' s' => .assign rfl) rfl rfl ?_
            refine RD.done (by kernel_rfl) (RC.back ?_)
            refine RC.done (rs := [.cell 2 59, .tmp 3]) (vs := [_, _]) rfl rfl ⟨⟨_, rfl, .inr ⟨(⟨some ⟨b_16, 0, none⟩, 1, 1, some ⟨b3, 0, none⟩, n, n, some ⟨b4, 0, none⟩, 8, 8⟩ : TbP).cells, sh59, hb_2.row, rfl⟩⟩, rfl, trivial⟩ ?_
            -- end 8
            exact ⟨S, _, x, _, rfl, (UpN.one ge_16).or ((UpN.one ge3).or ((UpN.one ge4).or up)), (hb_16.ft.and (h3.ft.and (h4.ft.and h1))).imp fun u h => ⟨b_16, b3, b4, rfl, h.1, h.2.1, h.2.2.1, h.2.2.2⟩⟩
      ·
        refine RL.buildSlice1 sl24 _ ze3 rfl rfl rfl rfl rfl rfl rfl (fun b_20 w_20 e_20 z_20 hb_20 s_20 => ?_)
        have fr_b_20 : w3.heap.size ≤ b_20 := by rw [e_20]; exact szD
        have ge_20 := S.le e_20
        have n_2__20 := hb_2.ne e_20
        have n_4__20 := hb_4.ne e_20
        have n_17__20 := hb_17.ne e_20
        have d_h1_b_20 := h1.neNew e_20
        have S := S.trans s_20
        have hb_2 := hb_2.sub s_20
        have h1 := h1.sub s_20
        have hb_4 := hb_4.sub s_20
        have szD := Nat.le_trans szD s_20.size
        have hb_17 := hb_17.sub s_20
        refine RD.back s_20.agr ?_
        refine RD.all [1, 4] (by kernel_rfl) rfl (RDs.cons rfl ?_ (RDs.cons rfl ?_ (RDs.nil)))
        ·
          refine RL.buildSlice1 sl57 _ ze77 rfl rfl rfl rfl rfl rfl rfl (fun b_16 w_16 e_16 z_16 hb_16 s_16 => ?_)
          have fr_b_16 : w3.heap.size ≤ b_16 := by rw [e_16]; exact szD
          have ge_16 := S.le e_16
          have n_2__16 := hb_2.ne e_16
          have n_4__16 := hb_4.ne e_16
          have n_17__16 := hb_17.ne e_16
          have n_20__16 := hb_20.ne e_16
          have d_h1_b_16 := h1.neNew e_16
          have S := S.trans s_16
          have hb_2 := hb_2.sub s_16
          have h1 := h1.sub s_16
          have hb_4 := hb_4.sub s_16
          have szD := Nat.le_trans szD s_16.size
          have hb_17 := hb_17.sub s_16
          have hb_20 := hb_20.sub s_16
          refine RD.back s_16.agr ?_
          refine RD.all [4] (by kernel_rfl) rfl (RDs.cons rfl ?_ (RDs.nil))
          refine RL.call rfl ok243 (c_repI n (by omega) b_17 w_16 hb_17) rfl rfl ?_
          rintro _ w43 ⟨s44, b3, rfl, ge3, h3⟩
          have n3_2 : b3 ≠ b_2 := (by have := hb_2.lt; omega)
          have ge3 := Nat.le_trans S.size ge3
          have S := S.trans s44
          have hb_2 := hb_2.sub s44
          have h1 := h1.sub s44
          have hb_4 := hb_4.sub s44
          have szD := Nat.le_trans szD s44.size
          have hb_17 := hb_17.sub s44
          have hb_20 := hb_20.sub s44
          have hb_16 := hb_16.sub s44
          refine RD.back s44.agr ?_
          refine RD.all [6] (by kernel_rfl) rfl (RDs.cons rfl ?_ (RDs.nil))
          refine RL.call rfl ok243 (c_repI 8 (by omega) b_20 w43 hb_20) rfl rfl ?_
          rintro _ w45 ⟨s46, b4, rfl, ge4, h4⟩
          have n4_2 : b4 ≠ b_2 := (by have := hb_2.lt; omega)
          have ge4 := Nat.le_trans S.size ge4
          have S := S.trans s46
          have hb_2 := hb_2.sub s46
          have h1 := h1.sub s46
          have hb_4 := hb_4.sub s46
          have szD := Nat.le_trans szD s46.size
          have hb_17 := hb_17.sub s46
          have hb_20 := hb_20.sub s46
          have hb_16 := hb_16.sub s46
          have h3 := h3.sub s46
          refine RD.back s46.agr ?_
          refine RD.take 7 rfl (by kernel_rfl) (by kernel_rfl) (by kernel_rfl) (fun w' s' => .buildS ze59 pl59 rfl rfl) rfl rfl ?_
          refine RD.all [8] (by kernel_rfl) rfl (RDs.cons rfl ?_ (RDs.nil))
          refine RL.store sh59 rfl rfl rfl hb_2 (by exact Nat.le_of_ble_eq_true rfl) (by rfl) rfl (fun w47 z47 hb_2 a47 => ?_)
          have S := S.upd a47 ge_2
          have h1 := h1.updD a47 d_h1_b_2
          have hb_4 := hb_4.upd a47 n_2__4.symm
          have szD := Nat.le_trans szD a47.size
          have hb_17 := hb_17.upd a47 n_2__17.symm
          have hb_20 := hb_20.upd a47 n_2__20.symm
          have hb_16 := hb_16.upd a47 n_2__16.symm
          have h3 := h3.upd a47 n3_2
          have h4 := h4.upd a47 n4_2
          have hb_2 : Has w47 b_2 ((⟨some ⟨b_16, 0, none⟩, 1, 1, some ⟨b3, 0, none⟩, n, n, some ⟨b4, 0, none⟩, 8, 8⟩ : TbP).cells) _ := hb_2.now (by kernel_rfl)
          refine RD.backW rfl (a47.mono fun k _ e => e ▸ (.inl (rfl))) ?_
          refine RD.take 9 rfl (by kernel_rfl) (by kernel_rfl) (by kernel_rfl) (fun w' s' => .assign rfl) rfl rfl ?_
          refine RD.done (by kernel_rfl) (RC.back ?_)
          refine RC.done (rs := [.cell 2 59, .tmp 3]) (vs := [_, _]) rfl rfl ⟨⟨_, rfl, .inr ⟨(⟨some ⟨b_16, 0, none⟩, 1, 1, some ⟨b3, 0, none⟩, n, n, some ⟨b4, 0, none⟩, 8, 8⟩ : TbP).cells, sh59, hb_2.row, rfl⟩⟩, rfl, trivial⟩ ?_
          -- end 9
          exact ⟨S, _, x, _, rfl, (UpN.one ge_16).or ((UpN.one ge3).or ((UpN.one ge4).or up)), (hb_16.ft.and (h3.ft.and (h4.ft.and h1))).imp fun u h => ⟨b_16, b3, b4, rfl, h.1, h.2.1, h.2.2.1, h.2.2.2⟩⟩
        ·
          refine RL.call rfl ok243 (c_repI n (by omega) b_17 w_20 hb_17) rfl rfl ?_
          rintro _ w48 ⟨s49, b3, rfl, ge3, h3⟩
          have n3_2 : b3 ≠ b_2 := (by have := hb_2.lt; omega)
          have ge3 := Nat.le_trans S.size ge3
          have S := S.trans s49
          have hb_2 := hb_2.sub s49
          have h1 := h1.sub s49
          have hb_4 := hb_4.sub s49
          have szD := Nat.le_trans szD s49.size
          have hb_17 := hb_17.sub s49
          have hb_20 := hb_20.sub s49
          refine RD.back s49.agr ?_
          refine RD.all [1, 6] (by kernel_rfl) rfl (RDs.cons rfl ?_ (RDs.cons rfl ?_ (RDs.nil)))
          ·
            refine RL.buildSlice1 sl57 _ ze77 rfl rfl rfl rfl rfl rfl rfl (fun b_16 w_16 e_16 z_16 hb_16 s_16 => ?_)
            have fr_b_16 : w3.heap.size ≤ b_16 := by rw [e_16]; exact szD
            have ge_16 := S.le e_16
            have n_2__16 := hb_2.ne e_16
            have n_4__16 := hb_4.ne e_16
            have n_17__16 := hb_17.ne e_16
            have n_20__16 := hb_20.ne e_16
            have n3__16 := h3.ne e_16
            have d_h1_b_16 := h1.neNew e_16
            have S := S.trans s_16
            have hb_2 := hb_2.sub s_16
            have h1 := h1.sub s_16
            have hb_4 := hb_4.sub s_16
            have szD := Nat.le_trans szD s_16.size
            have hb_17 := hb_17.sub s_16
            have hb_20 := hb_20.sub s_16
            have h3 := h3.sub s_16
            refine RD.back s_16.agr ?_
            refine RD.all [6] (by kernel_rfl) rfl (RDs.cons rfl ?_ (RDs.nil))
            refine RL.call rfl ok243 (c_repI 8 (by omega) b_20 w_16 hb_20) rfl rfl ?_
            rintro _ w50 ⟨s51, b4, rfl, ge4, h4⟩
            have n4_2 : b4 ≠ b_2 := (by have := hb_2.lt; omega)
            have ge4 := Nat.le_trans S.size ge4
            have S := S.trans s51
            have hb_2 := hb_2.sub s51
            have h1 := h1.sub s51
            have hb_4 := hb_4.sub s51
            have szD := Nat.le_trans szD s51.size
            have hb_17 := hb_17.sub s51
            have hb_20 := hb_20.sub s51
            have h3 := h3.sub s51
            have hb_16 := hb_16.sub s51
            refine RD.back s51.agr ?_
            refine RD.take 7 rfl (by kernel_rfl) (by kernel_rfl) (by kernel_rfl) (fun w' s' => .buildS ze59 pl59 rfl rfl) rfl rfl ?_
            refine RD.all [8] (by kernel_rfl) rfl (RDs.cons rfl ?_ (RDs.nil))
            refine RL.store sh59 rfl rfl rfl hb_2 (by exact Nat.le_of_ble_eq_true rfl) (by rfl) rfl (fun w52 z52 hb_2 a52 => ?_)
            have S := S.upd a52 ge_2
            have h1 := h1.updD a52 d_h1_b_2
            have hb_4 := hb_4.upd a52 n_2__4.symm
            have szD := Nat.le_trans szD a52.size
            have hb_17 := hb_17.upd a52 n_2__17.symm
            have hb_20 := hb_20.upd a52 n_2__20.symm
            have h3 := h3.upd a52 n3_2
            have hb_16 := hb_16.upd a52 n_2__16.symm
            have h4 := h4.upd a52 n4_2
            have hb_2 : Has w52 b_2 ((⟨some ⟨b_16, 0, none⟩, 1, 1, some ⟨b3, 0, none⟩, n, n, some ⟨b4, 0, none⟩, 8, 8⟩ : TbP).cells) _ := hb_2.now (by kernel_rfl)
            refine RD.backW rfl (a52.mono fun k _ e => e ▸ (.inl (rfl))) ?_
            refine RD.take 9 rfl (by kernel_rfl) (by kernel_rfl) (by kernel_rfl) (fun w' s' => .assign rfl) rfl rfl ?_
            refine RD.done (by kernel_rfl) (RC.back ?_)
            refine RC.done (rs := [.cell 2 59, .tmp 3]) (vs := [_, _]) rfl rfl ⟨⟨_, rfl, .inr ⟨(⟨some ⟨b_16, 0, none⟩, 1, 1, some ⟨b3, 0, none⟩, n, n, some ⟨b4, 0, none⟩, 8, 8⟩ : TbP).cells, sh59, hb_2.row, rfl⟩⟩, rfl, trivial⟩ ?_
            -- end 10
            exact ⟨S, _, x, _, rfl, (UpN.one ge_16).or ((UpN.one ge3).or ((UpN.one ge4).or up)), (hb_16.ft.and (h3.ft.and (h4.ft.and h1))).imp fun u h => ⟨b_16, b3, b4, rfl, h.1, h.2.1, h.2.2.1, h.2.2.2⟩⟩
          ·
            refine RL.call rfl ok243 (c_repI 8 (by omega) b_20 w48 hb_20) rfl rfl ?_
            rintro _ w53 ⟨s54, b4, rfl, ge4, h4⟩
            have n4_2 : b4 ≠ b_2 := (by have := hb_2.lt; omega)
            have ge4 := Nat.le_trans S.size ge4
            have S := S.trans s54
            have hb_2 := hb_2.sub s54
            have h1 := h1.sub s54
            have hb_4 := hb_4.sub s54
            have szD := Nat.le_trans szD s54.size
            have hb_17 := hb_17.sub s54
            have hb_20 := hb_20.sub s54
            have h3 := h3.sub s54
            refine RD.back s54.agr ?_
            refine RD.all [1] (by kernel_rfl) rfl (RDs.cons rfl ?_ (RDs.nil))
            refine RL.buildSlice1 sl57 _ ze77 rfl rfl rfl rfl rfl rfl rfl (fun b_16 w_16 e_16 z_16 hb_16 s_16 => ?_)
            have fr_b_16 : w3.heap.size ≤ b_16 := by rw [e_16]; exact szD
            have ge_16 := S.le e_16
            have n_2__16 := hb_2.ne e_16
            have n_4__16 := hb_4.ne e_16
            have n_17__16 := hb_17.ne e_16
            have n_20__16 := hb_20.ne e_16
            have n3__16 := h3.ne e_16
            have n4__16 := h4.ne e_16
            have d_h1_b_16 := h1.neNew e_16
            have S := S.trans s_16
            have hb_2 := hb_2.sub s_16
            have h1 := h1.sub s_16
            have hb_4 := hb_4.sub s_16
            have szD := Nat.le_trans szD s_16.size
            have hb_17 := hb_17.sub s_16
            have hb_20 := hb_20.sub s_16
            have h3 := h3.sub s_16
            have h4 := h4.sub s_16
            refine RD.back s_16.agr ?_
            refine RD.take 7 rfl (by kernel_rfl) (by kernel_rfl) (by kernel_rfl) (fun w' s' => .buildS ze59 pl59 rfl rfl) rfl rfl ?_
            refine RD.all [8] (by kernel_rfl) rfl (RDs.cons rfl ?_ (RDs.nil))
            refine RL.store sh59 rfl rfl rfl hb_2 (by exact Nat.le_of_ble_eq_true rfl) (by rfl) rfl (fun w55 z55 hb_2 a55 => ?_)
            have S := S.upd a55 ge_2
            have h1 := h1.updD a55 d_h1_b_2
            have hb_4 := hb_4.upd a55 n_2__4.symm
            have szD := Nat.le_trans szD a55.size
            have hb_17 := hb_17.upd a55 n_2__17.symm
            have hb_20 := hb_20.upd a55 n_2__20.symm
            have h3 := h3.upd a55 n3_2
            have h4 := h4.upd a55 n4_2
            have hb_16 := hb_16.upd a55 n_2__16.symm
            have hb_2 : Has w55 b_2 ((⟨some ⟨b_16, 0, none⟩, 1, 1, some ⟨b3, 0, none⟩, n, n, some ⟨b4, 0, none⟩, 8, 8⟩ : TbP).cells) _ := hb_2.now (by kernel_rfl)
            refine RD.backW rfl (a55.mono fun k _ e => e ▸ (.inl (rfl))) ?_
            refine RD.take 9 rfl (by kernel_rfl) (by kernel_rfl) (by kernel_rfl) (fun w' s' => .assign rfl) rfl rfl ?_
            refine RD.done (by kernel_rfl) (RC.back ?_)
            refine RC.done (rs := [.cell 2 59, .tmp 3]) (vs := [_, _]) rfl rfl ⟨⟨_, rfl, .inr ⟨(⟨some ⟨b_16, 0, none⟩, 1, 1, some ⟨b3, 0, none⟩, n, n, some ⟨b4, 0, none⟩, 8, 8⟩ : TbP).cells, sh59, hb_2.row, rfl⟩⟩, rfl, trivial⟩ ?_
            -- end 11
            exact ⟨S, _, x, _, rfl, (UpN.one ge_16).or ((UpN.one ge3).or ((UpN.one ge4).or up)), (hb_16.ft.and (h3.ft.and (h4.ft.and h1))).imp fun u h => ⟨b_16, b3, b4, rfl, h.1, h.2.1, h.2.2.1, h.2.2.2⟩⟩
    ·
      refine RL.buildSlice1 sl24 _ ze3 rfl rfl rfl rfl rfl rfl rfl (fun b_20 w_20 e_20 z_20 hb_20 s_20 => ?_)
      have fr_b_20 : w3.heap.size ≤ b_20 := by rw [e_20]; exact szD
      have ge_20 := S.le e_20
      have n_2__20 := hb_2.ne e_20
      have n_4__20 := hb_4.ne e_20
      have d_h1_b_20 := h1.neNew e_20
      have S := S.trans s_20
      have hb_2 := hb_2.sub s_20
      have h1 := h1.sub s_20
      have hb_4 := hb_4.sub s_20
      have szD := Nat.le_trans szD s_20.size
      refine RD.back s_20.agr ?_
      refine RD.all [1, 2] (by kernel_rfl) rfl (RDs.cons rfl ?_ (RDs.cons rfl ?_ (RDs.nil)))
      ·
        refine RL.buildSlice1 sl57 _ ze77 rfl rfl rfl rfl rfl rfl rfl (fun b_16 w_16 e_16 z_16 hb_16 s_16 => ?_)
        have fr_b_16 : w3.heap.size ≤ b_16 := by rw [e_16]; exact szD
        have ge_16 := S.le e_16
        have n_2__16 := hb_2.ne e_16
        have n_4__16 := hb_4.ne e_16
        have n_20__16 := hb_20.ne e_16
        have d_h1_b_16 := h1.neNew e_16
        have S := S.trans s_16
        have hb_2 := hb_2.sub s_16
        have h1 := h1.sub s_16
        have hb_4 := hb_4.sub s_16
        have szD := Nat.le_trans szD s_16.size
        have hb_20 := hb_20.sub s_16
        refine RD.back s_16.agr ?_
        refine RD.all [2] (by kernel_rfl) rfl (RDs.cons rfl ?_ (RDs.nil))
        refine RL.buildSlice1 sl24 _ ze3 rfl rfl rfl rfl rfl rfl rfl (fun b_17 w_17 e_17 z_17 hb_17 s_17 => ?_)
        have fr_b_17 : w3.heap.size ≤ b_17 := by rw [e_17]; exact szD
        have ge_17 := S.le e_17
        have n_2__17 := hb_2.ne e_17
        have n_4__17 := hb_4.ne e_17
        have n_20__17 := hb_20.ne e_17
        have n_16__17 := hb_16.ne e_17
        have d_h1_b_17 := h1.neNew e_17
        have S := S.trans s_17
        have hb_2 := hb_2.sub s_17
        have h1 := h1.sub s_17
        have hb_4 := hb_4.sub s_17
        have szD := Nat.le_trans szD s_17.size
        have hb_20 := hb_20.sub s_17
        have hb_16 := hb_16.sub s_17
        refine RD.back s_17.agr ?_
        refine RD.all [4] (by kernel_rfl) rfl (RDs.cons rfl ?_ (RDs.nil))
        refine RL.call rfl ok243 (c_repI n (by omega) b_17 w_17 hb_17) rfl rfl ?_
        rintro _ w56 ⟨s57, b3, rfl, ge3, h3⟩
        have n3_2 : b3 ≠ b_2 := (by have := hb_2.lt; omega)
        have ge3 := Nat.le_trans S.size ge3
        have S := S.trans s57
        have hb_2 := hb_2.sub s57
        have h1 := h1.sub s57
        have hb_4 := hb_4.sub s57
        have szD := Nat.le_trans szD s57.size
        have hb_20 := hb_20.sub s57
        have hb_16 := hb_16.sub s57
        have hb_17 := hb_17.sub s57
        refine RD.back s57.agr ?_
        refine RD.all [6] (by kernel_rfl) rfl (RDs.cons rfl ?_ (RDs.nil))
        refine RL.call rfl ok243 (c_repI 8 (by omega) b_20 w56 hb_20) rfl rfl ?_
        rintro _ w58 ⟨s59, b4, rfl, ge4, h4⟩
        have n4_2 : b4 ≠ b_2 := (by have := hb_2.lt; omega)
        have ge4 := Nat.le_trans S.size ge4
        have S := S.trans s59
        have hb_2 := hb_2.sub s59
        have h1 := h1.sub s59
        have hb_4 := hb_4.sub s59
        have szD := Nat.le_trans szD s59.size
        have hb_20 := hb_20.sub s59
        have hb_16 := hb_16.sub s59
        have hb_17 := hb_17.sub s59
        have h3 := h3.sub s59
        refine RD.back s59.agr ?_
        refine RD.take 7 rfl (by kernel_rfl) (by kernel_rfl) (by kernel_rfl) (fun w' s' => .buildS ze59 pl59 rfl rfl) rfl rfl ?_
        refine RD.all [8] (by kernel_rfl) rfl (RDs.cons rfl ?_ (RDs.nil))
        refine RL.store sh59 rfl rfl rfl hb_2 (by exact Nat.le_of_ble_eq_true rfl) (by rfl) rfl (fun w60 z60 hb_2 a60 => ?_)
        have S := S.upd a60 ge_2
        have h1 := h1.updD a60 d_h1_b_2
        have hb_4 := hb_4.upd a60 n_2__4.symm
        have szD := Nat.le_trans szD a60.size
        have hb_20 := hb_20.upd a60 n_2__20.symm
        have hb_16 := hb_16.upd a60 n_2__16.symm
        have hb_17 := hb_17.upd a60 n_2__17.symm
        have h3 := h3.upd a60 n3_2
        have h4 := h4.upd a60 n4_2
        have hb_2 : Has w60 b_2 ((⟨some ⟨b_16, 0, none⟩, 1, 1, some ⟨b3, 0, none⟩, n, n, some ⟨b4, 0, none⟩, 8, 8⟩ : TbP).cells) _ := hb_2.now (by kernel_rfl)
        refine RD.backW rfl (a60.mono fun k _ e => e ▸ (.inl (rfl))) ?_
        refine RD.take 9 rfl (by kernel_rfl) (by kernel_rfl) (by kernel_rfl) (fun w' s' => .assign rfl) rfl rfl ?_
        refine RD.done (by kernel_rfl) (RC.back ?_)
        refine RC.done (rs := [.cell 2 59, .tmp 3]) (vs := [_, _]) rfl rfl ⟨⟨_, rfl, .inr ⟨(⟨some ⟨b_16, 0, none⟩, 1, 1, some ⟨b3, 0, none⟩, n, n, some ⟨b4, 0, none⟩, 8, 8⟩ : TbP).cells, sh59, hb_2.row, rfl⟩⟩, rfl, trivial⟩ ?_
        -- end 12
        exact ⟨S, _, x, _, rfl, (UpN.one ge_16).or ((UpN.one ge3).or ((UpN.one ge4).or up)), (hb_16.ft.and (h3.ft.and (h4.ft.and h1))).imp fun u h => ⟨b_16, b3, b4, rfl, h.1, h.2.1, h.2.2.1, h.2.2.2⟩⟩
      ·
        refine RL.buildSlice1 sl24 _ ze3 rfl rfl rfl rfl rfl rfl rfl (fun b_17 w_17 e_17 z_17 hb_17 s_17 => ?_)
        have fr_b_17 : w3.heap.size ≤ b_17 := by rw [e_17]; exact szD
        have ge_17 := S.le e_17
        have n_2__17 := hb_2.ne e_17
        have n_4__17 := hb_4.ne e_17
        have n_20__17 := hb_20.ne e_17
        have d_h1_b_17 := h1.neNew e_17
        have S := S.trans s_17
        have hb_2 := hb_2.sub s_17
        have h1 := h1.sub s_17
        have hb_4 := hb_4.sub s_17
        have szD := Nat.le_trans szD s_17.size
        have hb_20 := hb_20.sub s_17
        refine RD.back s_17.agr ?_
        refine RD.all [1, 4] (by kernel_rfl) rfl (RDs.cons rfl ?_ (RDs.cons rfl ?_ (RDs.nil)))
        ·
          refine RL.buildSlice1 sl57 _ ze77 rfl rfl rfl rfl rfl rfl rfl (fun b_16 w_16 e_16 z_16 hb_16 s_16 => ?_)
          have fr_b_16 : w3.heap.size ≤ b_16 := by rw [e_16]; exact szD
          have ge_16 := S.le e_16
          have n_2__16 := hb_2.ne e_16
          have n_4__16 := hb_4.ne e_16
          have n_20__16 := hb_20.ne e_16
          have n_17__16 := hb_17.ne e_16
          have d_h1_b_16 := h1.neNew e_16
          have S := S.trans s_16
          have hb_2 := hb_2.sub s_16
          have h1 := h1.sub s_16
          have hb_4 := hb_4.sub s_16
          have szD := Nat.le_trans szD s_16.size
          have hb_20 := hb_20.sub s_16
          have hb_17 := hb_17.sub s_16
          refine RD.back s_16.agr ?_
          refine RD.all [4] (by kernel_rfl) rfl (RDs.cons rfl ?_ (RDs.nil))
          refine RL.call rfl ok243 (c_repI n (by omega) b_17 w_16 hb_17) rfl rfl ?_
          rintro _ w61 ⟨s62, b3, rfl, ge3, h3⟩
          have n3_2 : b3 ≠ b_2 := (by have := hb_2.lt; omega)
          have ge3 := Nat.le_trans S.size ge3
          have S := S.trans s62
          have hb_2 := hb_2.sub s62
          have h1 := h1.sub s62
          have hb_4 := hb_4.sub s62
          have szD := Nat.le_trans szD s62.size
          have hb_20 := hb_20.sub s62
          have hb_17 := hb_17.sub s62
          have hb_16 := hb_16.sub s62
          refine RD.back s62.agr ?_
          refine RD.all [6] (by kernel_rfl) rfl (RDs.cons rfl ?_ (RDs.nil))
          refine RL.call rfl ok243 (c_repI 8 (by omega) b_20 w61 hb_20) rfl rfl ?_
          rintro _ w63 ⟨s64, b4, rfl, ge4, h4⟩
          have n4_2 : b4 ≠ b_2 := (by have := hb_2.lt; omega)
          have ge4 := Nat.le_trans S.size ge4
          have S := S.trans s64
          have hb_2 := hb_2.sub s64
          have h1 := h1.sub s64
          have hb_4 := hb_4.sub s64
          have szD := Nat.le_trans szD s64.size
          have hb_20 := hb_20.sub s64
          have hb_17 := hb_17.sub s64
          have hb_16 := hb_16.sub s64
          have h3 := h3.sub s64
          refine RD.back s64.agr ?_
          refine RD.take 7 rfl (by kernel_rfl) (by kernel_rfl) (by kernel_rfl) (fun w' s' => .buildS ze59 pl59 rfl rfl) rfl rfl ?_
          refine RD.all [8] (by kernel_rfl) rfl (RDs.cons rfl ?_ (RDs.nil))
          refine RL.store sh59 rfl rfl rfl hb_2 (by exact Nat.le_of_ble_eq_true rfl) (by rfl) rfl (fun w65 z65 hb_2 a65 => ?_)
          have S := S.upd a65 ge_2
          have h1 := h1.updD a65 d_h1_b_2
          have hb_4 := hb_4.upd a65 n_2__4.symm
          have szD := Nat.le_trans szD a65.size
          have hb_20 := hb_20.upd a65 n_2__20.symm
          have hb_17 := hb_17.upd a65 n_2__17.symm
          have hb_16 := hb_16.upd a65 n_2__16.symm
          have h3 := h3.upd a65 n3_2
          have h4 := h4.upd a65 n4_2
          have hb_2 : Has w65 b_2 ((⟨some ⟨b_16, 0, none⟩, 1, 1, some ⟨b3, 0, none⟩, n, n, some ⟨b4, 0, none⟩, 8, 8⟩ : TbP).cells) _ := hb_2.now (by kernel_rfl)
          refine RD.backW rfl (a65.mono fun k _ e => e ▸ (.inl (rfl))) ?_
          refine RD.take 9 rfl (by kernel_rfl) (by kernel_rfl) (by kernel_rfl) (fun w' s' => .assign rfl) rfl rfl ?_
          refine RD.done (by kernel_rfl) (RC.back ?_)
          refine RC.done (rs := [.cell 2 59, .tmp 3]) (vs := [_, _]) rfl rfl ⟨⟨_, rfl, .inr ⟨(⟨some ⟨b_16, 0, none⟩, 1, 1, some ⟨b3, 0, none⟩, n, n, some ⟨b4, 0, none⟩, 8, 8⟩ : TbP).cells, sh59, hb_2.row, rfl⟩⟩, rfl, trivial⟩ ?_
          -- end 13
          exact ⟨S, _, x, _, rfl, (UpN.one ge_16).or ((UpN.one ge3).or ((UpN.one ge4).or up)), (hb_16.ft.and (h3.ft.and (h4.ft.and h1))).imp fun u h => ⟨b_16, b3, b4, rfl, h.1, h.2.1, h.2.2.1, h.2.2.2⟩⟩
        ·
          refine RL.call rfl ok243 (c_repI n (by omega) b_17 w_17 hb_17) rfl rfl ?_
          rintro _ w66 ⟨s67, b3, rfl, ge3, h3⟩
          have n3_2 : b3 ≠ b_2 := (by have := hb_2.lt; omega)
          have ge3 := Nat.le_trans S.size ge3
          have S := S.trans s67
          have hb_2 := hb_2.sub s67
          have h1 := h1.sub s67
          have hb_4 := hb_4.sub s67
          have szD := Nat.le_trans szD s67.size
          have hb_20 := hb_20.sub s67
          have hb_17 := hb_17.sub s67
          refine RD.back s67.agr ?_
          refine RD.all [1, 6] (by kernel_rfl) rfl (RDs.cons rfl ?_ (RDs.cons rfl ?_ (RDs.nil)))
          ·
            refine RL.buildSlice1 sl57 _ ze77 rfl rfl rfl rfl rfl rfl rfl (fun b_16 w_16 e_16 z_16 hb_16 s_16 => ?_)
            have fr_b_16 : w3.heap.size ≤ b_16 := by rw [e_16]; exact szD
            have ge_16 := S.le e_16
            have n_2__16 := hb_2.ne e_16
            have n_4__16 := hb_4.ne e_16
            have n_20__16 := hb_20.ne e_16
            have n_17__16 := hb_17.ne e_16
            have n3__16 := h3.ne e_16
            have d_h1_b_16 := h1.neNew e_16
            have S := S.trans s_16
            have hb_2 := hb_2.sub s_16
            have h1 := h1.sub s_16
            have hb_4 := hb_4.sub s_16
            have szD := Nat.le_trans szD s_16.size
            have hb_20 := hb_20.sub s_16
            have hb_17 := hb_17.sub s_16
            have h3 := h3.sub s_16
            refine RD.back s_16.agr ?_
            refine RD.all [6] (by kernel_rfl) rfl (RDs.cons rfl ?_ (RDs.nil))
            refine RL.call rfl ok243 (c_repI 8 (by omega) b_20 w_16 hb_20) rfl rfl ?_
            rintro _ w68 ⟨s69, b4, rfl, ge4, h4⟩
            have n4_2 : b4 ≠ b_2 := (by have := hb_2.lt; omega)
            have ge4 := Nat.le_trans S.size ge4
            have S := S.trans s69
            have hb_2 := hb_2.sub s69
            have h1 := h1.sub s69
            have hb_4 := hb_4.sub s69
            have szD := Nat.le_trans szD s69.size
            have hb_20 := hb_20.sub s69
            have hb_17 := hb_17.sub s69
            have h3 := h3.sub s69
            have hb_16 := hb_16.sub s69
            refine RD.back s69.agr ?_
            refine RD.take 7 rfl (by kernel_rfl) (by kernel_rfl) (by kernel_rfl) (fun w' s' => .buildS ze59 pl59 rfl rfl) rfl rfl ?_
            refine RD.all [8] (by kernel_rfl) rfl (RDs.cons rfl ?_ (RDs.nil))
            refine RL.store sh59 rfl rfl rfl hb_2 (by exact Nat.le_of_ble_eq_true rfl) (by rfl) rfl (fun w70 z70 hb_2 a70 => ?_)
            have S := S.upd a70 ge_2
            have h1 := h1.updD a70 d_h1_b_2
            have hb_4 := hb_4.upd a70 n_2__4.symm
            have szD := Nat.le_trans szD a70.size
            have hb_20 := hb_20.upd a70 n_2__20.symm
            have hb_17 := hb_17.upd a70 n_2__17.symm
            have h3 := h3.upd a70 n3_2
            have hb_16 := hb_16.upd a70 n_2__16.symm
            have h4 := h4.upd a70 n4_2
            have hb_2 : Has w70 b_2 ((⟨some ⟨b_16, 0, none⟩, 1, 1, some ⟨b3, 0, none⟩, n, n, some ⟨b4, 0, none⟩, 8, 8⟩ : TbP).cells) _ := hb_2.now (by kernel_rfl)
            refine RD.backW rfl (a70.mono fun k _ e => e ▸ (.inl (rfl))) ?_
            refine RD.take 9 rfl (by kernel_rfl) (by kernel_rfl) (by kernel_rfl) (fun w' s' => .assign rfl) rfl rfl ?_
            refine RD.done (by kernel_rfl) (RC.back ?_)
            refine RC.done (rs := [.cell 2 59, .tmp 3]) (vs := [_, _]) rfl rfl ⟨⟨_, rfl, .inr ⟨(⟨some ⟨b_16, 0, none⟩, 1, 1, some ⟨b3, 0, none⟩, n, n, some ⟨b4, 0, none⟩, 8, 8⟩ : TbP).cells, sh59, hb_2.row, rfl⟩⟩, rfl, trivial⟩ ?_
            -- end 14
            exact ⟨S, _, x, _, rfl, (UpN.one ge_16).or ((UpN.one ge3).or ((UpN.one ge4).or up)), (hb_16.ft.and (h3.ft.and (h4.ft.and h1))).imp fun u h => ⟨b_16, b3, b4, rfl, h.1, h.2.1, h.2.2.1, h.2.2.2⟩⟩
          ·
            refine RL.call rfl ok243 (c_repI 8 (by omega) b_20 w66 hb_20) rfl rfl ?_
            rintro _ w71 ⟨s72, b4, rfl, ge4, h4⟩
            have n4_2 : b4 ≠ b_2 := (by have := hb_2.lt; omega)
            have ge4 := Nat.le_trans S.size ge4
            have S := S.trans s72
            have hb_2 := hb_2.sub s72
            have h1 := h1.sub s72
            have hb_4 := hb_4.sub s72
            have szD := Nat.le_trans szD s72.size
            have hb_20 := hb_20.sub s72
            have hb_17 := hb_17.sub s72
            have h3 := h3.sub s72
            refine RD.back s72.agr ?_
            refine RD.all [1] (by kernel_rfl) rfl (RDs.cons rfl ?_ (RDs.nil))
            refine RL.buildSlice1 sl57 _ ze77 rfl rfl rfl rfl rfl rfl rfl (fun b_16 w_16 e_16 z_16 hb_16 s_16 => ?_)
            have fr_b_16 : w3.heap.size ≤ b_16 := by rw [e_16]; exact szD
            have ge_16 := S.le e_16
            have n_2__16 := hb_2.ne e_16
            have n_4__16 := hb_4.ne e_16
            have n_20__16 := hb_20.ne e_16
            have n_17__16 := hb_17.ne e_16
            have n3__16 := h3.ne e_16
            have n4__16 := h4.ne e_16
            have d_h1_b_16 := h1.neNew e_16
            have S := S.trans s_16
            have hb_2 := hb_2.sub s_16
            have h1 := h1.sub s_16
            have hb_4 := hb_4.sub s_16
            have szD := Nat.le_trans szD s_16.size
            have hb_20 := hb_20.sub s_16
            have hb_17 := hb_17.sub s_16
            have h3 := h3.sub s_16
            have h4 := h4.sub s_16
            refine RD.back s_16.agr ?_
            refine RD.take 7 rfl (by kernel_rfl) (by kernel_rfl) (by kernel_rfl) (fun w' s' => .buildS ze59 pl59 rfl rfl) rfl rfl ?_
            refine RD.all [8] (by kernel_rfl) rfl (RDs.cons rfl ?_ (RDs.nil))
            refine RL.store sh59 rfl rfl rfl hb_2 (by exact Nat.le_of_ble_eq_true rfl) (by rfl) rfl (fun w73 z73 hb_2 a73 => ?_)
            have S := S.upd a73 ge_2
            have h1 := h1.updD a73 d_h1_b_2
            have hb_4 := hb_4.upd a73 n_2__4.symm
            have szD := Nat.le_trans szD a73.size
            have hb_20 := hb_20.upd a73 n_2__20.symm
            have hb_17 := hb_17.upd a73 n_2__17.symm
            have h3 := h3.upd a73 n3_2
            have h4 := h4.upd a73 n4_2
            have hb_16 := hb_16.upd a73 n_2__16.symm
            have hb_2 : Has w73 b_2 ((⟨some ⟨b_16, 0, none⟩, 1, 1, some ⟨b3, 0, none⟩, n, n, some ⟨b4, 0, none⟩, 8, 8⟩ : TbP).cells) _ := hb_2.now (by kernel_rfl)
            refine RD.backW rfl (a73.mono fun k _ e => e ▸ (.inl (rfl))) ?_
            refine RD.take 9 rfl (by kernel_rfl) (by kernel_rfl) (by kernel_rfl) (fun w' s' => .assign rfl) rfl rfl ?_
            refine RD.done (by kernel_rfl) (RC.back ?_)
            refine RC.done (rs := [.cell 2 59, .tmp 3]) (vs := [_, _]) rfl rfl ⟨⟨_, rfl, .inr ⟨(⟨some ⟨b_16, 0, none⟩, 1, 1, some ⟨b3, 0, none⟩, n, n, some ⟨b4, 0, none⟩, 8, 8⟩ : TbP).cells, sh59, hb_2.row, rfl⟩⟩, rfl, trivial⟩ ?_
            -- end 15
            exact ⟨S, _, x, _, rfl, (UpN.one ge_16).or ((UpN.one ge3).or ((UpN.one ge4).or up)), (hb_16.ft.and (h3.ft.and (h4.ft.and h1))).imp fun u h => ⟨b_16, b3, b4, rfl, h.1, h.2.1, h.2.2.1, h.2.2.2⟩⟩
theorem Mnew_up {w w' : World} (s : Sub w w') : UpN w (Mnew (fun _ => False) w w') := fun k hk => .inr (hk.elim (fun h => h.elim) (fun h => h.1))
end Go.Proofs.YtbjmllnddanniaaGreat
