/-
  Which references are rows', walked: may, right, Right; call.
-/
import Derived.Test.YtefakjhfcgjhgaaWeaverW
set_option linter.unusedVariables false
set_option linter.unusedSimpArgs false
namespace Go.Proofs.Ytefakjhfcgjhgaa
open Go Go.XL

def rB (y : Node) (a b : Int) : Node := ⟨y.kind, y.gen, 0, y.v, y.s, a, b, 0, 0, 0, 0, 0, 0, 0, 0, 0⟩
theorem mayR_rng (A : Ar) : ∀ (k : Nat) (r : Int) (seen : List Bool) (left : Int), 0 ≤ left → -1 ≤ (mayR A k r seen left).1 ∧ (mayR A k r seen left).1 ≤ left ∧ (mayR A k r seen left).2.length = seen.length
  | 0, r, seen, left, h => by rw [mayR]; split <;> exact ⟨by omega, by omega, rfl⟩
  | k + 1, r, seen, left, h => by
    by_cases h0 : r = 0
    · subst h0; rw [mayR_0]; exact ⟨by omega, h, rfl⟩
    · cases hg : getA A r with
      | none => rw [mayR_no h0 hg]; exact ⟨by omega, by omega, rfl⟩
      | some y =>
        by_cases hc : left ≤ 0 ∨ ¬ y.kind = 5 ∨ seen.getD (placeR r).toNat false = true
        · rw [mayR_bad h0 hg hc]; exact ⟨by omega, by omega, rfl⟩
        · obtain ⟨m1, hm1⟩ : ∃ m, mayR A k y.k0 (seen.set (placeR r).toNat true) (left - 1) = m := ⟨_, rfl⟩
          have hl0 : ¬ left ≤ 0 := fun e => hc (.inl e)
          have h1 := mayR_rng A k y.k0 (seen.set (placeR r).toNat true) (left - 1) (by omega)
          rw [hm1, List.length_set] at h1
          by_cases hc2 : m1.1 < 0 ∨ ¬ rBare y = y
          · rw [mayR_bad2 h0 hg hc hm1 hc2]; exact ⟨by omega, by omega, h1.2.2⟩
          · obtain ⟨m2, hm2⟩ : ∃ m, mayR A k y.k1 m1.2 (left - 1 - m1.1) = m := ⟨_, rfl⟩
            have h2 := mayR_rng A k y.k1 m1.2 (left - 1 - m1.1) (by omega)
            rw [hm2, h1.2.2] at h2
            have hm0 : 0 ≤ m1.1 := Int.not_lt.1 fun e => hc2 (.inl e)
            by_cases hc3 : m2.1 < 0 ∨ ¬ m1.1 + m2.1 + 1 = y.s
            · rw [mayR_bad3 h0 hg hc hm1 hc2 hm2 hc3]; exact ⟨by omega, by omega, h2.2.2⟩
            · rw [mayR_good h0 hg hc hm1 hc2 hm2 hc3]; exact ⟨by simp only []; omega, by simp only []; omega, h2.2.2⟩
theorem seen_get {seen : List Bool} {p : Int} (h : 0 ≤ p ∧ p < seen.length) : (seen.map Value.bool)[p.toNat]? = some (.bool (seen.getD p.toNat false)) := by
  rw [List.getElem?_map, List.getD_eq_getElem?_getD, List.getElem?_eq_getElem (by omega)]; rfl
set_option maxHeartbeats 4000000 in
theorem c_dmay (A : Ar) (na fa : Option Addr) (nc fc : Nat) (bad : Int) (bf bs : Nat) (hfs : bf ≠ bs) (M : Nat → Prop) (hMs : ∀ k, M k → k ≠ bs) (hmost : A.nodes.length ≤ 512) : ∀ (k : Nat) (r : Int) (seen : List Bool) (left : Int) (w : World), U64 r → 0 ≤ left → left < k → left ≤ 200 → seen.length = A.nodes.length → Has w bf (wvC na fa nc fc A bad) 84 → Has w bs (seen.map Value.bool) 4 → Ft M (fun u => ArR u na fa A) w →
    FC Try.prog 59 [.pointer (some ⟨bf, 0, none⟩), .int .u64 r, .slice (some ⟨bs, 0, none⟩) A.nodes.length A.nodes.length, .int .i64 left] w (fun v w' => v = .int .i64 (mayR A k r seen left).1 ∧ Has w' bs ((mayR A k r seen left).2.map Value.bool) 4 ∧ Agr (· = bs) w w') := by
  intro k
  induction k with
  | zero => intro r seen left w _ h1 h2; omega
  | succ k ih =>
  intro r seen left w hr hl0 hlk hl hsl hbf hs hA
  obtain ⟨y, e, hgv, hgs, hgn⟩ := getV_form2 A r
  have nfs := hfs
  refine FC.intro Try.func59 rfl Try.ntmps59 rfl ?_
  have G : Agr (· = bs) w w := Agr.refl _ _
  refine RC.seq ?_
  refine RC.region rfl ?_
  refine RL.ev (.assign rfl) rfl rfl ?_
  refine RL.nil (RC.back ?_)
  refine RC.seq ?_
  refine RC.seq ?_
  refine RC.region rfl ?_
  refine RL.ev (.move rfl) rfl rfl ?_
  refine RL.ev (.bin rfl rfl rfl) rfl rfl ?_
  refine RL.nil (RC.back ?_)
  refine RC.cond_dec rfl (fun h1 => ?_) (fun h1 => ?_)
  ·
    have hres : mayR A (k + 1) r seen left = (0, seen) := (by rw [h1, mayR_0])
    refine RC.seq ?_
    refine RC.region rfl ?_
    refine RL.ev (.assign rfl) rfl rfl ?_
    refine RL.nil (RC.back ?_)
    refine RC.done (rs := [.tmp 8]) (vs := [_]) rfl rfl ⟨rfl, trivial⟩ ?_
    -- end 1
    rw [hres]
    exact ⟨rfl, hs, G⟩
  ·
    have hr0 := h1
    refine RC.skip (RC.back ?_)
    refine RC.seq ?_
    refine RC.region rfl ?_
    refine RL.ev (.move rfl) rfl rfl ?_
    refine RL.ev (.nilCheck rfl) rfl rfl ?_
    refine RL.ev (.field0 fo84_0 rfl) rfl rfl ?_
    refine RL.ev (.loadR ([.slice na A.nodes.length nc, .slice fa A.free.length fc]) sh26 rfl (row_pref (xs := wvA na fa nc fc A) (ys := [.int .i64 bad]) hbf) rfl) rfl rfl ?_
    refine RL.ev (.move rfl) rfl rfl ?_
    refine RL.call rfl ok43 (c_aGet A na fa nc fc r hr w hA.now) rfl rfl ?_
    rintro _ w2 ⟨rfl, s3⟩
    have G := G.trans s3.agr
    have hbf := hbf.sub s3
    have hs := hs.sub s3
    have hA := hA.sub s3
    refine RL.ev (.as (v' := .tuple #[y.val, .int .i64 e]) (.move rfl) (by rw [hgv])) rfl rfl ?_
    refine RL.ev (.extract rfl rfl) rfl rfl ?_
    refine RL.ev (.extract rfl rfl) rfl rfl ?_
    refine RL.alloc ze73 rfl rfl (fun b_9 w_9 e_9 z_9 hb_9 s_9 => ?_)
    have nf__9 := hbf.ne e_9
    have ns__9 := hs.ne e_9
    have d_hA_b_9 := hA.neNew e_9
    have geG_9 := agLe G e_9
    have G := G.trans s_9.agr
    have hbf := hbf.sub s_9
    have hs := hs.sub s_9
    have hA := hA.sub s_9
    refine RL.store sh73 rfl rfl rfl hb_9 (by exact Nat.le_of_ble_eq_true rfl) (by rfl) rfl (fun w4 z4 hb_9 a4 => ?_)
    have G := agNew G a4 geG_9
    have hbf := hbf.upd a4 nf__9
    have hs := hs.upd a4 ns__9
    have hA := hA.updD a4 d_hA_b_9
    have hb_9 : Has w4 b_9 (y.cells) _ := hb_9.now (by kernel_rfl)
    refine RL.ev (.assign rfl) rfl rfl ?_
    refine RL.nil (RC.back ?_)
    refine RC.seq ?_
    refine RC.seq ?_
    refine RC.region rfl ?_
    refine RL.ev (.move rfl) rfl rfl ?_
    refine RL.ev (.bin rfl rfl rfl) rfl rfl ?_
    refine RL.ev (.move rfl) rfl rfl ?_
    refine RL.split 27 rfl (fun h5 => ?_) (fun h5 => ?_)
    ·
      have hres : mayR A (k + 1) r seen left = (-1, seen) := (by cases hg : getA A r with | none => exact mayR_no hr0 hg | some x => exact absurd (hgs x hg).2 h5)
      refine RL.off rfl rfl ?_
      refine RL.off rfl rfl ?_
      refine RL.ev (.pick_t rfl rfl) rfl rfl ?_
      refine RL.ev (.move rfl) rfl rfl ?_
      refine RL.off rfl rfl ?_
      refine RL.off rfl rfl ?_
      refine RL.off rfl rfl ?_
      refine RL.ev (.pick_t rfl rfl) rfl rfl ?_
      refine RL.ev (.move rfl) rfl rfl ?_
      refine RL.off rfl rfl ?_
      refine RL.off rfl rfl ?_
      refine RL.off rfl rfl ?_
      refine RL.off rfl rfl ?_
      refine RL.off rfl rfl ?_
      refine RL.ev (.pick_t rfl rfl) rfl rfl ?_
      refine RL.nil (RC.back ?_)
      refine RC.cond_t rfl ?_
      refine RC.seq ?_
      refine RC.region rfl ?_
      refine RL.ev (.assign rfl) rfl rfl ?_
      refine RL.nil (RC.back ?_)
      refine RC.done (rs := [.tmp 8]) (vs := [_]) rfl rfl ⟨rfl, trivial⟩ ?_
      -- end 2
      rw [hres]
      exact ⟨rfl, hs, G⟩
    ·
      have hy : getA A r = some y := (by cases hg : getA A r with | none => have := (hgn hg).2; omega | some x => rw [(hgs x hg).1])
      have hrg := getA_rng hy
      have hyo := hA.now.nok y (getA_nok hy)
      refine RL.ev (.move rfl) rfl rfl ?_
      refine RL.ev (.bin rfl rfl rfl) rfl rfl ?_
      refine RL.ev (.pick_f rfl rfl) rfl rfl ?_
      refine RL.ev (.move rfl) rfl rfl ?_
      refine RL.split 31 rfl (fun h6 => ?_) (fun h6 => ?_)
      ·
        have hres := mayR_bad (k := k) (seen := seen) hr0 hy (.inl h6)
        refine RL.off rfl rfl ?_
        refine RL.off rfl rfl ?_
        refine RL.off rfl rfl ?_
        refine RL.ev (.pick_t rfl rfl) rfl rfl ?_
        refine RL.ev (.move rfl) rfl rfl ?_
        refine RL.off rfl rfl ?_
        refine RL.off rfl rfl ?_
        refine RL.off rfl rfl ?_
        refine RL.off rfl rfl ?_
        refine RL.off rfl rfl ?_
        refine RL.ev (.pick_t rfl rfl) rfl rfl ?_
        refine RL.nil (RC.back ?_)
        refine RC.cond_t rfl ?_
        refine RC.seq ?_
        refine RC.region rfl ?_
        refine RL.ev (.assign rfl) rfl rfl ?_
        refine RL.nil (RC.back ?_)
        refine RC.done (rs := [.tmp 8]) (vs := [_]) rfl rfl ⟨rfl, trivial⟩ ?_
        -- end 3
        rw [hres]
        exact ⟨rfl, hs, G⟩
      ·
        have p31 := h6
        refine RL.ev (.field0 fo73_0 rfl) rfl rfl ?_
        refine RL.ev (.load1 sh3 rfl (hb_9.cell rfl)) rfl rfl ?_
        refine RL.ev (.bin rfl rfl rfl) rfl rfl ?_
        refine RL.ev (.pick_f rfl rfl) rfl rfl ?_
        refine RL.ev (.move rfl) rfl rfl ?_
        refine RL.split 36 rfl (fun h7 => ?_) (fun h7 => ?_)
        ·
          have hres := mayR_bad (k := k) (seen := seen) (left := left) hr0 hy (.inr (.inl h7))
          refine RL.off rfl rfl ?_
          refine RL.off rfl rfl ?_
          refine RL.off rfl rfl ?_
          refine RL.off rfl rfl ?_
          refine RL.off rfl rfl ?_
          refine RL.ev (.pick_t rfl rfl) rfl rfl ?_
          refine RL.nil (RC.back ?_)
          refine RC.cond_t rfl ?_
          refine RC.seq ?_
          refine RC.region rfl ?_
          refine RL.ev (.assign rfl) rfl rfl ?_
          refine RL.nil (RC.back ?_)
          refine RC.done (rs := [.tmp 8]) (vs := [_]) rfl rfl ⟨rfl, trivial⟩ ?_
          -- end 4
          rw [hres]
          exact ⟨rfl, hs, G⟩
        ·
          have p36 := h7
          refine RL.ev (.move rfl) rfl rfl ?_
          refine RL.ev (.move rfl) rfl rfl ?_
          refine RL.call rfl ok53 (c_refPlace r hr w4) rfl rfl ?_
          rintro _ w8 ⟨rfl, s9⟩
          have G := G.trans s9.agr
          have hbf := hbf.sub s9
          have hs := hs.sub s9
          have hA := hA.sub s9
          have hb_9 := hb_9.sub s9
          refine RL.ev (.indexO sl100 rfl rfl (by omega)) rfl rfl ?_
          refine RL.ev (.load1 sh4 rfl (hs.cell (v := .bool (seen.getD (placeR r).toNat false)) (by rw [Nat.mul_one, Nat.zero_add]; exact seen_get (by omega)))) rfl rfl ?_
          refine RL.ev (.pick_f rfl rfl) rfl rfl ?_
          refine RL.nil (RC.back ?_)
          refine RC.cond rfl (fun h10 => ?_) (fun h10 => ?_)
          ·
            have hres := mayR_bad (k := k) (seen := seen) (left := left) hr0 hy (.inr (.inr h10))
            refine RC.seq ?_
            refine RC.region rfl ?_
            refine RL.ev (.assign rfl) rfl rfl ?_
            refine RL.nil (RC.back ?_)
            refine RC.done (rs := [.tmp 8]) (vs := [_]) rfl rfl ⟨rfl, trivial⟩ ?_
            -- end 5
            rw [hres]
            exact ⟨rfl, hs, G⟩
          ·
            have hnb : ¬ (left ≤ 0 ∨ ¬ y.kind = 5 ∨ seen.getD (placeR r).toNat false = true) := (fun e => e.elim p31 (fun e => e.elim p36 (fun e => by have h2 := h10; rw [e] at h2; cases h2)))
            have hk5 : y.kind = 5 := Decidable.not_not.1 (fun e => hnb (.inr (.inl e)))
            refine RC.skip (RC.back ?_)
            refine RC.seq ?_
            refine RC.region rfl ?_
            refine RL.ev (.move rfl) rfl rfl ?_
            refine RL.ev (.move rfl) rfl rfl ?_
            refine RL.call rfl ok53 (c_refPlace r hr w8) rfl rfl ?_
            rintro _ w11 ⟨rfl, s12⟩
            have G := G.trans s12.agr
            have hbf := hbf.sub s12
            have hs := hs.sub s12
            have hA := hA.sub s12
            have hb_9 := hb_9.sub s12
            refine RL.ev (.indexO sl100 rfl rfl (by omega)) rfl rfl ?_
            refine RL.store sh4 rfl rfl rfl hs (by show 0 + (placeR r).toNat * 1 + 1 ≤ _; rw [List.length_map]; omega) (by rfl) rfl (fun w13 z13 hs a13 => ?_)
            have G := G.trans a13
            have hbf := hbf.upd a13 nfs
            have hA := hA.updD a13 hMs
            have hb_9 := hb_9.upd a13 ns__9.symm
            have hs := (Has.set1 (enc := Value.bool) (i := (placeR r).toNat) (x := true) (by rw [Nat.zero_add, Nat.mul_one] at hs; exact hs))
            refine RL.nil (RC.back ?_)
            refine RC.seq ?_
            refine RC.region rfl ?_
            refine RL.ev (.field0 fo73_0 rfl) rfl rfl ?_
            refine RL.ev (.load1 sh3 rfl (hb_9.cell rfl)) rfl rfl ?_
            refine RL.ev (.field0 fo73_1 rfl) rfl rfl ?_
            refine RL.ev (.load1 sh3 rfl (hb_9.cell rfl)) rfl rfl ?_
            refine RL.ev (.field0 fo73_3 rfl) rfl rfl ?_
            refine RL.ev (.load1 sh2 rfl (hb_9.cell rfl)) rfl rfl ?_
            refine RL.ev (.field0 fo73_4 rfl) rfl rfl ?_
            refine RL.ev (.load1 sh2 rfl (hb_9.cell rfl)) rfl rfl ?_
            refine RL.ev (.buildS ze73 pl73 rfl rfl) rfl rfl ?_
            refine RL.alloc ze73 rfl rfl (fun b_11 w_11 e_11 z_11 hb_11 s_11 => ?_)
            have nf__11 := hbf.ne e_11
            have ns__11 := hs.ne e_11
            have n_9__11 := hb_9.ne e_11
            have d_hA_b_11 := hA.neNew e_11
            have geG_11 := agLe G e_11
            have G := G.trans s_11.agr
            have hbf := hbf.sub s_11
            have hs := hs.sub s_11
            have hA := hA.sub s_11
            have hb_9 := hb_9.sub s_11
            refine RL.store sh73 rfl rfl rfl hb_11 (by exact Nat.le_of_ble_eq_true rfl) (by rfl) rfl (fun w14 z14 hb_11 a14 => ?_)
            have G := agNew G a14 geG_11
            have hbf := hbf.upd a14 nf__11
            have hs := hs.upd a14 ns__11
            have hA := hA.updD a14 d_hA_b_11
            have hb_9 := hb_9.upd a14 n_9__11
            have hb_11 : Has w14 b_11 ((rB y 0 0).cells) _ := hb_11.now (by kernel_rfl)
            refine RL.nil (RC.back ?_)
            refine RC.cutx (α := Unit) (fun _ => [(0, .pointer (some ⟨bf, 0, none⟩)), (2, .slice (some ⟨bs, 0, none⟩) A.nodes.length A.nodes.length), (3, .int .i64 left), (9, .pointer (some ⟨b_9, 0, none⟩)), (11, .pointer (some ⟨b_11, 0, none⟩))]) (fun _ w15 => Has w15 bf (wvC na fa nc fc A bad) 84 ∧ Has w15 bs ((seen.set (placeR r).toNat true).map Value.bool) 4 ∧ Has w15 b_9 y.cells 73 ∧ Has w15 b_11 (rB y y.k0 y.k1).cells 73 ∧ Ft M (fun u => ArR u na fa A) w15 ∧ Agr (· = bs) w w15) ?_ (fun _ w15 hJ => ?_)
            ·
              refine RC.drawD (fun k => k = b_11) [8, 11] w14.heap.size 12 rfl rfl mxo (fun w16 s17 => ?_)
              have ltD_bf := hbf.lt
              have ltD_bs := hs.lt
              have ltD_hA := fun k hk => (hA.ge k hk).2
              have ltD_b_9 := hb_9.lt
              have ltD_b_11 := hb_11.lt
              have szD := Nat.le_refl w14.heap.size
              have G := G.trans s17.agr
              have hbf := hbf.sub s17
              have hs := hs.sub s17
              have hA := hA.sub s17
              have hb_9 := hb_9.sub s17
              have hb_11 := hb_11.sub s17
              have szD := Nat.le_trans szD s17.size
              refine RD.take 0 rfl (by kernel_rfl) (by kernel_rfl) (by kernel_rfl) (fun w' s' => .field0 fo73_5 rfl) rfl rfl ?_
              refine RD.take 1 rfl (by kernel_rfl) (by kernel_rfl) (by kernel_rfl) (fun w' s' => .indexArr ar71 rfl rfl (by omega)) rfl rfl ?_
              refine RD.take 2 rfl (by kernel_rfl) (by kernel_rfl) (by kernel_rfl) (fun w' s' => .load1 sh28 rfl ((hb_9.step s' (fun e => e.elim (fun e => n_9__11 e) (fun e => Nat.not_le.2 ltD_b_9 e))).cell rfl)) rfl rfl ?_
              refine RD.take 3 rfl (by kernel_rfl) (by kernel_rfl) (by kernel_rfl) (fun w' s' => .field0 fo73_5 rfl) rfl rfl ?_
              refine RD.take 4 rfl (by kernel_rfl) (by kernel_rfl) (by kernel_rfl) (fun w' s' => .indexArr ar71 rfl rfl (by omega)) rfl rfl ?_
              refine RD.take 5 rfl (by kernel_rfl) (by kernel_rfl) (by kernel_rfl) (fun w' s' => .load1 sh28 rfl ((hb_9.step s' (fun e => e.elim (fun e => n_9__11 e) (fun e => Nat.not_le.2 ltD_b_9 e))).cell rfl)) rfl rfl ?_
              refine RD.take 6 rfl (by kernel_rfl) (by kernel_rfl) (by kernel_rfl) (fun w' s' => .field0 fo73_5 rfl) rfl rfl ?_
              refine RD.take 7 rfl (by kernel_rfl) (by kernel_rfl) (by kernel_rfl) (fun w' s' => .indexArr ar71 rfl rfl (by omega)) rfl rfl ?_
              refine RD.take 9 rfl (by kernel_rfl) (by kernel_rfl) (by kernel_rfl) (fun w' s' => .field0 fo73_5 rfl) rfl rfl ?_
              refine RD.all [8] (by kernel_rfl) rfl (RDs.cons rfl ?_ (RDs.nil))
              refine RL.store sh28 rfl rfl rfl hb_11 (by exact Nat.le_of_ble_eq_true rfl) (by rfl) rfl (fun w18 z18 hb_11 a18 => ?_)
              have G := agNew G a18 geG_11
              have hbf := hbf.upd a18 nf__11
              have hs := hs.upd a18 ns__11
              have hA := hA.updD a18 d_hA_b_11
              have hb_9 := hb_9.upd a18 n_9__11
              have szD := Nat.le_trans szD a18.size
              refine RD.backW rfl (a18.mono fun k _ e => e ▸ (.inl (rfl))) ?_
              refine RD.take 10 rfl (by kernel_rfl) (by kernel_rfl) (by kernel_rfl) (fun w' s' => .indexArr ar71 rfl rfl (by omega)) rfl rfl ?_
              refine RD.all [11] (by kernel_rfl) rfl (RDs.cons rfl ?_ (RDs.nil))
              refine RL.store sh28 rfl rfl rfl hb_11 (by exact Nat.le_of_ble_eq_true rfl) (by rfl) rfl (fun w19 z19 hb_11 a19 => ?_)
              have G := agNew G a19 geG_11
              have hbf := hbf.upd a19 nf__11
              have hs := hs.upd a19 ns__11
              have hA := hA.updD a19 d_hA_b_11
              have hb_9 := hb_9.upd a19 n_9__11
              have szD := Nat.le_trans szD a19.size
              refine RD.backW rfl (a19.mono fun k _ e => e ▸ (.inl (rfl))) ?_
              exact RD.done (by kernel_rfl) (fun a ka => ⟨(), ⟨hbf, hs, hb_9, hb_11, hA, G⟩, ka.keep (keep_of (by repeat (first | exact trivial | refine And.intro rfl ?_)))⟩)
            obtain ⟨hbf, hs, hb_9, hb_11, hA, G⟩ := hJ
            refine RC.seq ?_
            refine RC.region rfl ?_
            refine RL.ev (.move rfl) rfl rfl ?_
            refine RL.ev (.field0 fo73_5 rfl) rfl rfl ?_
            refine RL.ev (.indexArr ar71 rfl rfl (by omega)) rfl rfl ?_
            refine RL.ev (.load1 sh28 rfl (hb_9.cell rfl)) rfl rfl ?_
            refine RL.ev (.move rfl) rfl rfl ?_
            refine RL.ev (.move rfl) rfl rfl ?_
            refine RL.ev (.as (.bin rfl rfl rfl) (wi64 (y := left - 1) (by rfl) (by omega))) rfl rfl ?_
            refine RL.call rfl ok59 (ih y.k0 (seen.set (placeR r).toNat true) (left - 1) w15 (hyo.kids _ (by simp [Node.kids])) (by omega) (by omega) (by omega) (by rw [List.length_set]; exact hsl) hbf hs hA) rfl rfl ?_
            rintro vr w20 ⟨hv, hs1, ag⟩
            have G := G.trans ag
            have hbf := hbf.upd ag nfs
            have hb_9 := hb_9.upd ag ns__9.symm
            have hb_11 := hb_11.upd ag ns__11.symm
            have hA := hA.updD ag hMs
            have hs := hs1
            obtain ⟨m1, hm1⟩ : ∃ m, mayR A k y.k0 (seen.set (placeR r).toNat true) (left - 1) = m := ⟨_, rfl⟩
            have hml := mayR_rng A k y.k0 (seen.set (placeR r).toNat true) (left - 1) (by omega)
            rw [hm1, List.length_set] at hml
            rw [hm1] at hv hs
            subst hv
            refine RL.ev (.assign rfl) rfl rfl ?_
            refine RL.nil (RC.back ?_)
            refine RC.seq ?_
            refine RC.seq ?_
            refine RC.region rfl ?_
            refine RL.ev (.move rfl) rfl rfl ?_
            refine RL.ev (.bin rfl rfl rfl) rfl rfl ?_
            refine RL.ev (.move rfl) rfl rfl ?_
            refine RL.split 76 rfl (fun h22 => ?_) (fun h22 => ?_)
            ·
              have hres := mayR_bad2 hr0 hy hnb hm1 (.inl h22)
              refine RL.off rfl rfl ?_
              refine RL.off rfl rfl ?_
              refine RL.off rfl rfl ?_
              refine RL.ev (.pick_t rfl rfl) rfl rfl ?_
              refine RL.nil (RC.back ?_)
              refine RC.cond_t rfl ?_
              refine RC.seq ?_
              refine RC.region rfl ?_
              refine RL.ev (.assign rfl) rfl rfl ?_
              refine RL.nil (RC.back ?_)
              refine RC.done (rs := [.tmp 8]) (vs := [_]) rfl rfl ⟨rfl, trivial⟩ ?_
              -- end 6
              rw [hres]
              exact ⟨rfl, hs, G⟩
            ·
              have hp0 := h22
              refine RL.ev (.loadR (y.cells) sh73 rfl hb_9.row rfl) rfl rfl ?_
              refine RL.ev (.loadR ((rB y y.k0 y.k1).cells) sh73 rfl hb_11.row rfl) rfl rfl ?_
              refine RL.ev (.neS (xs := y.cells) (ys := (rB y y.k0 y.k1).cells) fk73 eg73 sh73 rfl rfl rfl rfl rfl) rfl rfl ?_
              refine RL.ev (.pick_f rfl rfl) rfl rfl ?_
              refine RL.nil (RC.back ?_)
              refine RC.cond rfl (fun h23 => ?_) (fun h23 => ?_)
              ·
                have hres := mayR_bad2 hr0 hy hnb hm1 (.inr (fun e => by have h2 := h23; rw [eqL_cells, decide_eq_true (show y = rB y y.k0 y.k1 from e.symm)] at h2; cases h2))
                refine RC.seq ?_
                refine RC.region rfl ?_
                refine RL.ev (.assign rfl) rfl rfl ?_
                refine RL.nil (RC.back ?_)
                refine RC.done (rs := [.tmp 8]) (vs := [_]) rfl rfl ⟨rfl, trivial⟩ ?_
                -- end 7
                rw [hres]
                exact ⟨rfl, hs, G⟩
              ·
                have hbr : rBare y = y := (by have h2 := h23; rw [eqL_cells] at h2; simp only [Bool.not_eq_false', decide_eq_true_eq] at h2; exact h2.symm)
                have hc2 : ¬ (m1.1 < 0 ∨ ¬ rBare y = y) := (fun e => e.elim hp0 (fun e => e hbr))
                refine RC.skip (RC.back ?_)
                refine RC.seq ?_
                refine RC.region rfl ?_
                refine RL.ev (.move rfl) rfl rfl ?_
                refine RL.ev (.field0 fo73_5 rfl) rfl rfl ?_
                refine RL.ev (.indexArr ar71 rfl rfl (by omega)) rfl rfl ?_
                refine RL.ev (.load1 sh28 rfl (hb_9.cell rfl)) rfl rfl ?_
                refine RL.ev (.move rfl) rfl rfl ?_
                refine RL.ev (.move rfl) rfl rfl ?_
                refine RL.ev (.as (.bin rfl rfl rfl) (wi64 (y := left - 1) (by rfl) (by omega))) rfl rfl ?_
                refine RL.ev (.move rfl) rfl rfl ?_
                refine RL.ev (.as (.bin rfl rfl rfl) (wi64 (y := left - 1 - m1.1) (by rfl) (by omega))) rfl rfl ?_
                refine RL.call rfl ok59 (ih y.k1 m1.2 (left - 1 - m1.1) w20 (hyo.kids _ (by simp [Node.kids])) (by omega) (by omega) (by omega) (by omega) hbf hs hA) rfl rfl ?_
                rintro vr w24 ⟨hv, hs1, ag⟩
                have G := G.trans ag
                have hbf := hbf.upd ag nfs
                have hb_9 := hb_9.upd ag ns__9.symm
                have hb_11 := hb_11.upd ag ns__11.symm
                have hA := hA.updD ag hMs
                have hs := hs1
                obtain ⟨m2, hm2⟩ : ∃ m, mayR A k y.k1 m1.2 (left - 1 - m1.1) = m := ⟨_, rfl⟩
                have hml2 := mayR_rng A k y.k1 m1.2 (left - 1 - m1.1) (by omega)
                rw [hm2] at hml2 hv hs
                subst hv
                refine RL.ev (.assign rfl) rfl rfl ?_
                refine RL.nil (RC.back ?_)
                refine RC.seq ?_
                refine RC.seq ?_
                refine RC.region rfl ?_
                refine RL.ev (.move rfl) rfl rfl ?_
                refine RL.ev (.bin rfl rfl rfl) rfl rfl ?_
                refine RL.ev (.move rfl) rfl rfl ?_
                refine RL.split 93 rfl (fun h26 => ?_) (fun h26 => ?_)
                ·
                  have hres := mayR_bad3 hr0 hy hnb hm1 hc2 hm2 (.inl h26)
                  refine RL.off rfl rfl ?_
                  refine RL.off rfl rfl ?_
                  refine RL.off rfl rfl ?_
                  refine RL.off rfl rfl ?_
                  refine RL.off rfl rfl ?_
                  refine RL.off rfl rfl ?_
                  refine RL.off rfl rfl ?_
                  refine RL.ev (.pick_t rfl rfl) rfl rfl ?_
                  refine RL.nil (RC.back ?_)
                  refine RC.cond_t rfl ?_
                  refine RC.seq ?_
                  refine RC.region rfl ?_
                  refine RL.ev (.assign rfl) rfl rfl ?_
                  refine RL.nil (RC.back ?_)
                  refine RC.done (rs := [.tmp 8]) (vs := [_]) rfl rfl ⟨rfl, trivial⟩ ?_
                  -- end 8
                  rw [hres]
                  exact ⟨rfl, hs, G⟩
                ·
                  have hq0 := h26
                  refine RL.ev (.move rfl) rfl rfl ?_
                  refine RL.ev (.move rfl) rfl rfl ?_
                  refine RL.ev (.as (.bin rfl rfl rfl) (wi64 (y := m1.1 + m2.1) (by rfl) (by omega))) rfl rfl ?_
                  refine RL.ev (.as (.bin rfl rfl rfl) (wi64 (y := m1.1 + m2.1 + 1) (by rfl) (by omega))) rfl rfl ?_
                  refine RL.ev (.field0 fo73_4 rfl) rfl rfl ?_
                  refine RL.ev (.load1 sh2 rfl (hb_9.cell rfl)) rfl rfl ?_
                  refine RL.ev (.bin rfl rfl rfl) rfl rfl ?_
                  refine RL.ev (.pick_f rfl rfl) rfl rfl ?_
                  refine RL.nil (RC.back ?_)
                  refine RC.cond_dec rfl (fun h27 => ?_) (fun h27 => ?_)
                  ·
                    have hres := mayR_bad3 hr0 hy hnb hm1 hc2 hm2 (.inr h27)
                    refine RC.seq ?_
                    refine RC.region rfl ?_
                    refine RL.ev (.assign rfl) rfl rfl ?_
                    refine RL.nil (RC.back ?_)
                    refine RC.done (rs := [.tmp 8]) (vs := [_]) rfl rfl ⟨rfl, trivial⟩ ?_
                    -- end 9
                    rw [hres]
                    exact ⟨rfl, hs, G⟩
                  ·
                    have hres := mayR_good hr0 hy hnb hm1 hc2 hm2 (fun e => e.elim hq0 (fun e => e (Decidable.not_not.1 h27)))
                    refine RC.skip (RC.back ?_)
                    refine RC.seq ?_
                    refine RC.region rfl ?_
                    refine RL.ev (.move rfl) rfl rfl ?_
                    refine RL.ev (.move rfl) rfl rfl ?_
                    refine RL.ev (.as (.bin rfl rfl rfl) (wi64 (y := m1.1 + m2.1) (by rfl) (by omega))) rfl rfl ?_
                    refine RL.ev (.as (.bin rfl rfl rfl) (wi64 (y := m1.1 + m2.1 + 1) (by rfl) (by omega))) rfl rfl ?_
                    refine RL.ev (.assign rfl) rfl rfl ?_
                    refine RL.nil (RC.back ?_)
                    refine RC.done (rs := [.tmp 8]) (vs := [_]) rfl rfl ⟨rfl, trivial⟩ ?_
                    -- end 10
                    rw [hres]
                    exact ⟨rfl, hs, G⟩
/-- are all those rows'? -/
noncomputable def allRows (A : Ar) (l : List Int) : Bool := aokB A && l.all (isRowB A)
theorem mayd_neg {A : Ar} {r : Int} (hA : AOk A) (h : (mayR A 201 r (List.replicate A.nodes.length false) 200).1 < 0) : isRowB A r = false := isRowB_no (fun e => by have := (isRow_iff hA).2 e; omega)
theorem mayd_pos {A : Ar} {r : Int} (hA : AOk A) (h : ¬ (mayR A 201 r (List.replicate A.nodes.length false) 200).1 < 0) : isRowB A r = true := isRowB_yes ((isRow_iff hA).1 (by omega))
theorem allTake {α : Type} {p : α → Bool} {l : List α} {i : Nat} {x : α} (h : l[i]? = some x) (hp : (l.take i).all p = true) (hx : p x = true) : (l.take (i + 1)).all p = true := by
  rw [List.take_add_one, h, List.all_append, hp]; simp [hx]
theorem allNo {α : Type} {p : α → Bool} {l : List α} {i : Nat} {x : α} (h : l[i]? = some x) (hx : p x = false) : l.all p = false := by
  rw [List.all_eq_false]; exact ⟨x, List.mem_of_getElem? h, by rw [hx]; simp⟩
theorem c_dright (A : Ar) (na fa : Option Addr) (nc fc : Nat) (hnc : A.nodes.length ≤ nc) (hfc : A.free.length ≤ fc) (l : List Int) (m : Nat) (hm : m = l.length) (pa : Option Addr) (pc : Nat) (hl : l.length ≤ 10000) (hli : ∀ x ∈ l, U64 x) (w : World) (hA : ArR w na fa A) (hP : Sl w pa 1 (l.map fun x => [u6 x])) :
    FC Try.prog 42 [arV na fa nc fc A, .slice pa m pc] w (Val (.bool (allRows A l)) w) := by
  subst hm
  have hN := hA.nodes
  have hFr := hA.free
  have hF : Ft (· < w.heap.size) (fun u => ArR u na fa A) w := Ft.of_sub fun u s => hA.sub s
  refine FC.intro Try.func42 rfl Try.ntmps42 rfl ?_
  have S := Sub.refl w
  refine RC.seq ?_
  refine RC.region rfl ?_
  refine RL.box rfl rfl rfl (fun b_2 w_2 e_2 z_2 hb_2 s_2 => ?_)
  have ge_2 := S.le e_2
  have S := S.trans s_2
  have hb_2 : Has w_2 b_2 ([.slice na A.nodes.length nc, .slice fa A.free.length fc]) _ := hb_2
  refine RL.ev (.assign rfl) rfl rfl ?_
  refine RL.nil (RC.back ?_)
  refine RC.seq ?_
  refine RC.region rfl ?_
  refine RL.ev (.loadR ([.slice na A.nodes.length nc, .slice fa A.free.length fc]) sh26 rfl hb_2.row rfl) rfl rfl ?_
  refine RL.ev (.buildS ze84 pl84 rfl rfl) rfl rfl ?_
  refine RL.box rfl rfl rfl (fun b_10 w_10 e_10 z_10 hb_10 s_10 => ?_)
  have ge_10 := S.le e_10
  have n_2__10 := hb_2.ne e_10
  have S := S.trans s_10
  have hb_2 := hb_2.sub s_10
  have hb_10 : Has w_10 b_10 (wvC na fa nc fc A 0) 84 := hb_10
  refine RL.ev (.assign rfl) rfl rfl ?_
  refine RL.nil (RC.back ?_)
  refine RC.seq ?_
  refine RC.seq ?_
  refine RC.region rfl ?_
  refine RL.ev (.loadR ([.slice na A.nodes.length nc, .slice fa A.free.length fc]) sh26 rfl hb_2.row rfl) rfl rfl ?_
  refine RL.call rfl ok51 (c_aRight A na fa nc fc w_10 (hA.sub S)) rfl rfl ?_
  rintro _ w1 ⟨rfl, s2⟩
  have S := S.trans s2
  have hb_2 := hb_2.sub s2
  have hb_10 := hb_10.sub s2
  refine RL.ev (.not rfl) rfl rfl ?_
  refine RL.nil (RC.back ?_)
  refine RC.cond rfl (fun h3 => ?_) (fun h3 => ?_)
  ·
    have hno : aokB A = false := (by simpa using h3)
    refine RC.seq ?_
    refine RC.region rfl ?_
    refine RL.ev (.assign rfl) rfl rfl ?_
    refine RL.nil (RC.back ?_)
    refine RC.done (rs := [.tmp 4]) (vs := [_]) rfl rfl ⟨rfl, trivial⟩ ?_
    -- end 1
    rw [allRows, hno]
    exact ⟨rfl, S⟩
  ·
    have hokb : aokB A = true := (by simpa using h3)
    have hok : AOk A := (aokB_iff A).1 hokb
    have hmost := hok.most
    refine RC.skip (RC.back ?_)
    refine RC.seq ?_
    refine RC.seq ?_
    refine RC.region rfl ?_
    refine RL.ev (.move rfl) rfl rfl ?_
    refine RL.ev (.len sl61 rfl) rfl rfl ?_
    refine RL.ev (.move rfl) rfl rfl ?_
    refine RL.nil (RC.back ?_)
    refine RC.block ?_
    refine RC.loop (α := Nat) (fun i => [(2, .pointer (some ⟨b_2, 0, none⟩)), (5, .pointer (some ⟨b_10, 0, none⟩)), (14, .slice pa l.length pc), (15, .int .i64 (l.length : Int)), (16, .int .i64 (i : Int))]) (fun i w4 => i ≤ l.length ∧ (l.take i).all (isRowB A) = true ∧ Has w4 b_2 [.slice na A.nodes.length nc, .slice fa A.free.length fc] 26 ∧ Has w4 b_10 (wvC na fa nc fc A 0) 84 ∧ Sub w w4) (fun i => l.length - i) 0 (keep_of (by repeat (first | exact trivial | refine And.intro rfl ?_))) (⟨Nat.zero_le _, rfl, hb_2, hb_10, S⟩) (fun i w4 hJ => ?_)
    obtain ⟨hi, hp, hb_2, hb_10, S⟩ := hJ
    refine RC.seq ?_
    refine RC.region rfl ?_
    refine RL.ev (.bin rfl rfl rfl) rfl rfl ?_
    refine RL.nil (RC.back ?_)
    refine RC.seq ?_
    refine RC.cond_dec rfl (fun h5 => ?_) (fun h5 => ?_)
    ·
      obtain ⟨y, hy⟩ := getSome (l := l) (i := i) (by omega)
      refine RC.skip (RC.back ?_)
      refine RC.seq ?_
      refine RC.block ?_
      refine RC.seq ?_
      refine RC.region rfl ?_
      refine RL.ev (.indexS sl61 rfl rfl (by omega) (hP.is (i := 0) (by simp only [List.length_map]; omega))) rfl rfl ?_
      refine RL.ev (.load1 sh28 rfl ((hP.sub S).one (enc := u6) (i := i) hy)) rfl rfl ?_
      refine RL.ev (.assign rfl) rfl rfl ?_
      refine RL.nil (RC.back ?_)
      refine RC.seq ?_
      refine RC.region rfl ?_
      refine RL.ev (.move rfl) rfl rfl ?_
      refine RL.ev (.move rfl) rfl rfl ?_
      refine RL.ev (.field0 fo26_0 rfl) rfl rfl ?_
      refine RL.ev (.load1 sh23 rfl (hb_2.cell rfl)) rfl rfl ?_
      refine RL.ev (.len sl23 rfl) rfl rfl ?_
      refine RL.makeSlice sl100 ze4 rfl rfl rfl rfl (by omega) rfl rfl (fun b_25 w_25 e_25 z_25 hb_25 s_25 => ?_)
      have ge_25 := S.le e_25
      have n_2__25 := hb_2.ne e_25
      have n_10__25 := hb_10.ne e_25
      have S := S.trans s_25
      have hb_2 := hb_2.sub s_25
      have hb_10 := hb_10.sub s_25
      have hs : Has w_25 b_25 ((List.replicate A.nodes.length false).map Value.bool) 4 := by have := hb_25; rw [List.map_replicate]; rw [Int.toNat_natCast] at this; rw [← rep1]; exact this
      refine RL.call rfl ok59 (c_dmay A na fa nc fc 0 b_10 b_25 n_10__25 (· < w.heap.size) (fun k hk e => by have := ge_25; omega) hmost 201 y (List.replicate A.nodes.length false) 200 w_25 (hli y (List.mem_of_getElem? hy)) (by decide) (by decide) (by decide) List.length_replicate hb_10 hs (hF.sub S)) rfl rfl ?_
      rintro vr w6 ⟨hv, _, ag⟩
      have S := S.upd ag ge_25
      have hb_2 := hb_2.upd ag n_2__25
      have hb_10 := hb_10.upd ag n_10__25
      subst hv
      refine RL.ev (.bin rfl rfl rfl) rfl rfl ?_
      refine RL.nil (RC.back ?_)
      refine RC.cond_dec rfl (fun h8 => ?_) (fun h8 => ?_)
      ·
        have hbad := mayd_neg hok h8
        refine RC.seq ?_
        refine RC.region rfl ?_
        refine RL.ev (.assign rfl) rfl rfl ?_
        refine RL.nil (RC.back ?_)
        refine RC.done (rs := [.tmp 4]) (vs := [_]) rfl rfl ⟨rfl, trivial⟩ ?_
        -- end 2
        rw [allRows, allNo hy hbad, Bool.and_false]
        exact ⟨rfl, S⟩
      ·
        have hgood := mayd_pos hok h8
        refine RC.skip (RC.back ?_)
        refine RC.region rfl ?_
        refine RL.ev (.as (.bin rfl rfl rfl) (wi64 (y := ((i + 1 : Nat) : Int)) (by omega) (by omega))) rfl rfl ?_
        refine RL.ev (.move rfl) rfl rfl ?_
        exact RL.nil (fun a ka => ⟨i + 1, ⟨by omega, allTake hy hp hgood, hb_2, hb_10, S⟩, by omega, ka.keep (keep_of (by repeat (first | exact trivial | refine And.intro rfl ?_)))⟩)
    ·
      obtain rfl : i = l.length := (by omega)
      rw [List.take_length] at hp
      refine RC.exit rfl (RC.back ?_)
      refine RC.seq ?_
      refine RC.region rfl ?_
      refine RL.ev (.assign rfl) rfl rfl ?_
      refine RL.nil (RC.back ?_)
      refine RC.done (rs := [.tmp 4]) (vs := [_]) rfl rfl ⟨rfl, trivial⟩ ?_
      -- end 3
      rw [allRows, hp, hokb]
      exact ⟨rfl, S⟩
theorem isRowB_ok (A : Ar) (r : Int) : (aokB A && isRowB A r) = isRowB A r := by
  cases h : isRowB A r with
  | false => exact Bool.and_false _
  | true => rw [aokB_yes ((isRowB_iff A r).1 h).1]; rfl
theorem allRows_1 (A : Ar) (r : Int) : allRows A [r] = isRowB A r := by rw [allRows, List.all_cons, List.all_nil, Bool.and_true, isRowB_ok]
theorem allRows_2 {A : Ar} {a b : Int} : allRows A [a, b] = true ↔ isRow A a ∧ isRow A b := by
  rw [allRows, List.all_cons, List.all_cons, List.all_nil, Bool.and_true, Bool.and_eq_true, Bool.and_eq_true, isRowB_iff, isRowB_iff]
  exact ⟨fun h => h.2, fun h => ⟨aokB_yes h.1.1, h⟩⟩
theorem c_dRight (A : Ar) (na fa : Option Addr) (nc fc : Nat) (hnc : A.nodes.length ≤ nc) (hfc : A.free.length ≤ fc) (r : Int) (hr : U64 r) (w : World) (hA : ArR w na fa A) :
    FC Try.prog 26 [arV na fa nc fc A, .int .u64 r] w (Val (.bool (isRowB A r)) w) := by
  have hN := hA.nodes
  have hFr := hA.free
  refine FC.intro Try.func26 rfl Try.ntmps26 rfl ?_
  have S := Sub.refl w
  refine RC.seq ?_
  refine RC.region rfl ?_
  refine RL.box rfl rfl rfl (fun b_2 w_2 e_2 z_2 hb_2 s_2 => ?_)
  have ge_2 := S.le e_2
  have S := S.trans s_2
  have hb_2 : Has w_2 b_2 ([.slice na A.nodes.length nc, .slice fa A.free.length fc]) _ := hb_2
  refine RL.ev (.assign rfl) rfl rfl ?_
  refine RL.nil (RC.back ?_)
  refine RC.seq ?_
  refine RC.region rfl ?_
  refine RL.ev (.loadR ([.slice na A.nodes.length nc, .slice fa A.free.length fc]) sh26 rfl hb_2.row rfl) rfl rfl ?_
  refine RL.ev (.move rfl) rfl rfl ?_
  refine RL.buildSlice1 sl61 _ ze28 rfl rfl rfl rfl rfl rfl rfl (fun b_7 w_7 e_7 z_7 hb_7 s_7 => ?_)
  have ge_7 := S.le e_7
  have n_2__7 := hb_2.ne e_7
  have S := S.trans s_7
  have hb_2 := hb_2.sub s_7
  refine RL.call rfl ok42 (c_dright A na fa nc fc hnc hfc [r] 1 rfl (some ⟨b_7, 0, none⟩) 1 (Nat.le_of_ble_eq_true rfl) (fun x hx => by rw [List.mem_singleton] at hx; rw [hx]; exact hr) w_7 (hA.sub S) (Has.sl1 (enc := u6) (l := [r]) hb_7)) rfl rfl ?_
  rintro _ w1 ⟨rfl, s2⟩
  have S := S.trans s2
  have hb_2 := hb_2.sub s2
  have hb_7 := hb_7.sub s2
  refine RL.ev (.assign rfl) rfl rfl ?_
  refine RL.nil (RC.back ?_)
  refine RC.done (rs := [.tmp 4]) (vs := [_]) rfl rfl ⟨rfl, trivial⟩ ?_
  -- end 1
  refine ⟨congrArg Value.bool (allRows_1 A r), S⟩
end Go.Proofs.Ytefakjhfcgjhgaa
