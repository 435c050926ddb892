/-
  What the law WalkTells leans on, part 3.
-/
import Derived.Test.YtbfjobmebkhblaaPWalkTells2
set_option linter.unusedVariables false
set_option linter.unusedSimpArgs false
set_option maxRecDepth 4000
namespace Go.Proofs.Ytbfjobmebkhblaa
open Go Go.XL
theorem kids_set (kd g s : Int) (y : Node) (j : Nat) (hj : j < 9) {z : Int} (hz : y.kids[j]? = some z) : splice (hN kd g 0 0 s (y.kids.take j)).cells (5 + (j : Int).toNat * 1) [u6 z] = (hN kd g 0 0 s (y.kids.take (j + 1))).cells := by
  rcases j with _|_|_|_|_|_|_|_|_|j
  all_goals first | (cases hz; rfl) | omega
theorem len_cases {l : List It} (h0 : ¬ l.length = 0) (h1 : ¬ l.length = 1) : 2 ≤ l.length := by omega
set_option maxHeartbeats 1000000 in
theorem c_refIsT (A : Ar) (na fa : Option Addr) (nc fc : Nat) (hnl : A.nodes.length ≤ 1000000000) (k lv : Nat) (hk : k ≤ 9) (hlv : lv = 9 - k) (r : Int) (l : List It) (hap : Ap l) (a : Option Addr) (c m : Nat) (hm : m = l.length) (hr : U64 r) (hb : l.length ≤ 1000000) (w : World) (hA : ArR w na fa A) (hl : Sl w a 2 (l.map It.cells))
    (ih : ∀ (r' : Int) (l' : List It) (a' : Option Addr) (c' m' : Nat) (w' : World), Ap l' → m' = l'.length → U64 r' → l'.length ≤ 1000000 → ArR w' na fa A → Sl w' a' 2 (l'.map It.cells) → FC Try.prog 32 [arV na fa nc fc A, .int .u64 r', .slice a' m' c', .int .i64 ((lv + 1 : Nat) : Int)] w' (Val (.bool (isHB A k r' l')) w')) :
    FC Try.prog 32 [arV na fa nc fc A, .int .u64 r, .slice a m c, .int .i64 (lv : Int)] w (Val (.bool (isHB A (k + 1) r l)) w) := by
  subst hm
  have hf := atA_form A r
  have hNd := hA.nodes
  have hFr := hA.free
  have len0 : l.length = 0 → l = [] := List.eq_nil_of_length_eq_zero
  refine FC.intro Try.func32 rfl Try.ntmps32 rfl ?_
  have S := Sub.refl w
  refine RC.seq ?_
  refine RC.region rfl ?_
  refine RL.box rfl rfl rfl (fun b_4 w_4 e_4 z_4 hb_4 s_4 => ?_)
  have ge_4 := S.le e_4
  have S := S.trans s_4
  have hb_4 : Has w_4 b_4 ([.slice na A.nodes.length nc, .slice fa A.free.length fc]) _ := hb_4
  refine RL.ev (.assign rfl) rfl rfl ?_
  refine RL.nil (RC.back ?_)
  refine RC.seq ?_
  refine RC.seq ?_
  refine RC.region rfl ?_
  refine RL.ev (.move rfl) rfl rfl ?_
  refine RL.ev (.len sl26 rfl) rfl rfl ?_
  refine RL.ev (.bin rfl rfl rfl) rfl rfl ?_
  refine RL.nil (RC.back ?_)
  refine RC.cond_dec rfl (fun h1 => ?_) (fun h1 => ?_)
  ·
    have q0 : l = [] := len0 (by have := h1; omega)
    have hres : isHB A (k + 1) r l = decide (r = 0) := (by rw [q0]; exact isHB_nil _ _ _)
    refine RC.seq ?_
    refine RC.region rfl ?_
    refine RL.ev (.move rfl) rfl rfl ?_
    refine RL.ev (.bin rfl rfl rfl) rfl rfl ?_
    refine RL.ev (.assign rfl) rfl rfl ?_
    refine RL.nil (RC.back ?_)
    refine RC.done (rs := [.tmp 8]) (vs := [_]) rfl rfl ⟨rfl, trivial⟩ ?_
    -- end 1
    rw [hres]
    exact ⟨rfl, S⟩
  ·
    have q0 : ¬ l.length = 0 := (by have := h1; omega)
    refine RC.skip (RC.back ?_)
    refine RC.seq ?_
    refine RC.seq ?_
    refine RC.region rfl ?_
    refine RL.ev (.move rfl) rfl rfl ?_
    refine RL.ev (.len sl26 rfl) rfl rfl ?_
    refine RL.ev (.bin rfl rfl rfl) rfl rfl ?_
    refine RL.nil (RC.back ?_)
    refine RC.cond_dec rfl (fun h2 => ?_) (fun h2 => ?_)
    ·
      have q1 : l.length = 1 := (by have := h2; omega)
      obtain ⟨x, hx1⟩ := List.length_eq_one_iff.1 q1
      have hx : l[0]? = some x := (by rw [hx1]; rfl)
      have hres : isHB A (k + 1) r l = lfB A r x := (by rw [hx1]; exact isHB_one _ _ _ _)
      refine RC.seq ?_
      refine RC.draw rfl mxo (by kernel_rfl) ?_
      refine RQ.ev (.loadR ([.slice na A.nodes.length nc, .slice fa A.free.length fc]) sh34 rfl hb_4.row rfl) rfl rfl ?_
      refine RQ.ev (.move rfl) rfl rfl ?_
      refine RQ.ev (.move rfl) rfl rfl ?_
      refine RQ.ev (.indexS sl26 rfl rfl (by omega) (hl.is (i := 0) (by simp only [List.length_map, List.length_cons, List.length_nil]; omega))) rfl rfl ?_
      refine RQ.ev (.loadR (x.cells) sh29 rfl ((hl.sub S).rowAt (enc := It.cells) (i := 0) hx) rfl) rfl rfl ?_
      refine RQ.call rfl ok60 (fun w' s' => c_refLeaf A na fa nc fc hnl r hr x w' (hA.sub (S.trans s'))) rfl rfl ?_
      refine RQ.ev (.assign rfl) rfl rfl ?_
      refine RQ.nil (fun w3 s4 => RC.back ?_)
      have S := S.trans s4
      have hb_4 := hb_4.sub s4
      refine RC.done (rs := [.tmp 8]) (vs := [_]) rfl rfl ⟨rfl, trivial⟩ ?_
      -- end 2
      rw [hres]
      exact ⟨rfl, S⟩
    ·
      have q1 : 2 ≤ l.length := len_cases q0 (by have := h2; omega)
      refine RC.skip (RC.back ?_)
      refine RC.seq ?_
      refine RC.region rfl ?_
      refine RL.ev (.loadR ([.slice na A.nodes.length nc, .slice fa A.free.length fc]) sh34 rfl hb_4.row rfl) rfl rfl ?_
      refine RL.ev (.move rfl) rfl rfl ?_
      refine RL.call rfl ok61 (c_r4At A na fa nc fc r hr w_4 (hA.sub S) hnl) rfl rfl ?_
      rintro _ w5 ⟨rfl, s6⟩
      have S := S.trans s6
      have hb_4 := hb_4.sub s6
      refine RL.ev (.assign rfl) rfl rfl ?_
      refine RL.nil (RC.back ?_)
      refine RC.seq ?_
      refine RC.seq ?_
      refine RC.region rfl ?_
      refine RL.ev (.move rfl) rfl rfl ?_
      refine RL.ev (.bin rfl rfl rfl) rfl rfl ?_
      refine RL.nil (RC.back ?_)
      refine RC.cond_dec rfl (fun h7 => ?_) (fun h7 => ?_)
      ·
        have hres : isHB A (k + 1) r l = false := isHB_none q1 (hf.1 h7)
        refine RC.seq ?_
        refine RC.region rfl ?_
        refine RL.ev (.assign rfl) rfl rfl ?_
        refine RL.nil (RC.back ?_)
        refine RC.done (rs := [.tmp 8]) (vs := [_]) rfl rfl ⟨rfl, trivial⟩ ?_
        -- end 3
        rw [hres]
        exact ⟨rfl, S⟩
      ·
        obtain ⟨y, hy, hay⟩ := hf.2 h7
        have hrg := getA_rng hy
        have hyo := hA.nok y (getA_nok hy)
        have hti := trie_iff (k := k) q1 hy
        refine RC.skip (RC.back ?_)
        refine RC.seq ?_
        refine RC.region rfl ?_
        refine RL.ev (.field0 fo34_0 rfl) rfl rfl ?_
        refine RL.ev (.load1 sh31 rfl (hb_4.cell rfl)) rfl rfl ?_
        refine RL.ev (.as (v' := .int .i64 (placeR r)) (.move rfl) (by rw [hay])) rfl rfl ?_
        refine RL.ev (.indexS sl31 rfl rfl (by omega) (hNd.is (i := 0) (by simp only [List.length_map, List.length_cons, List.length_nil]; omega))) rfl rfl ?_
        refine RL.ev (.loadR (y.cells) sh97 rfl ((hNd.sub S).rowAt (enc := Node.cells) (getA_get hy).1) rfl) rfl rfl ?_
        refine RL.alloc ze97 rfl rfl (fun b_10 w_10 e_10 z_10 hb_10 s_10 => ?_)
        have ge_10 := S.le e_10
        have n_4__10 := hb_4.ne e_10
        have S := S.trans s_10
        have hb_4 := hb_4.sub s_10
        refine RL.store sh97 rfl rfl rfl hb_10 (by exact Nat.le_of_ble_eq_true rfl) (by rfl) rfl (fun w8 z8 hb_10 a8 => ?_)
        have S := S.upd a8 ge_10
        have hb_4 := hb_4.upd a8 n_4__10
        have hb_10 : Has w8 b_10 (y.cells) _ := hb_10.now (by kernel_rfl)
        refine RL.nil (RC.back ?_)
        refine RC.seq ?_
        refine RC.region rfl ?_
        refine RL.ev (.field0 fo97_1 rfl) rfl rfl ?_
        refine RL.ev (.load1 sh3 rfl (hb_10.cell rfl)) rfl rfl ?_
        refine RL.ev (.move rfl) rfl rfl ?_
        refine RL.ev (.len sl26 rfl) rfl rfl ?_
        refine RL.ev (.buildS ze97 pl97 rfl rfl) rfl rfl ?_
        refine RL.alloc ze97 rfl rfl (fun b_11 w_11 e_11 z_11 hb_11 s_11 => ?_)
        have ge_11 := S.le e_11
        have n_4__11 := hb_4.ne e_11
        have n_10__11 := hb_10.ne e_11
        have S := S.trans s_11
        have hb_4 := hb_4.sub s_11
        have hb_10 := hb_10.sub s_11
        refine RL.store sh97 rfl rfl rfl hb_11 (by exact Nat.le_of_ble_eq_true rfl) (by rfl) rfl (fun w9 z9 hb_11 a9 => ?_)
        have S := S.upd a9 ge_11
        have hb_4 := hb_4.upd a9 n_4__11
        have hb_10 := hb_10.upd a9 n_10__11
        have hb_11 : Has w9 b_11 ((hN 2 y.gen 0 0 l.length (y.kids.take 0)).cells) _ := hb_11.now (by kernel_rfl)
        refine RL.nil (RC.back ?_)
        refine RC.seq ?_
        refine RC.seq ?_
        refine RC.region rfl ?_
        refine RL.ev (.move rfl) rfl rfl ?_
        refine RL.ev (.as (v' := .bool true) (.bin rfl rfl rfl) (congrArg Value.bool (decide_eq_true (by omega)))) rfl rfl ?_
        refine RL.nil (RC.back ?_)
        refine RC.cond_t rfl ?_
        refine RC.seq ?_
        refine RC.seq ?_
        refine RC.region rfl ?_
        refine RL.ev (.assign rfl) rfl rfl ?_
        refine RL.nil (RC.back ?_)
        refine RC.block ?_
        refine RC.loop (α := Nat) (fun j => [(2, .slice a l.length c), (3, .int .i64 (lv : Int)), (4, .pointer (some ⟨b_4, 0, none⟩)), (10, .pointer (some ⟨b_10, 0, none⟩)), (11, .pointer (some ⟨b_11, 0, none⟩)), (12, .int .i64 (j : Int))]) (fun j w10 => (j ≤ 4 ∧ ∀ q, q < j → IsH A k (y.kids.getD q 0) (ofL (9 - k) q l)) ∧ Has w10 b_4 [.slice na A.nodes.length nc, .slice fa A.free.length fc] 34 ∧ Has w10 b_10 y.cells 97 ∧ Has w10 b_11 (hN 2 y.gen 0 0 l.length (y.kids.take j)).cells 97 ∧ Sub w w10) (fun j => 4 - j) 0 (keep_of (by repeat (first | exact trivial | refine And.intro rfl ?_))) (⟨⟨Nat.zero_le _, fun q h => absurd h (by omega)⟩, hb_4, hb_10, hb_11, S⟩) (fun j w10 hJ => ?_)
        obtain ⟨⟨hj, hq⟩, hb_4, hb_10, hb_11, S⟩ := hJ
        refine RC.seq ?_
        refine RC.seq ?_
        refine RC.region rfl ?_
        refine RL.ev (.move rfl) rfl rfl ?_
        refine RL.ev (.bin rfl rfl rfl) rfl rfl ?_
        refine RL.nil (RC.back ?_)
        refine RC.cond_dec rfl (fun h11 => ?_) (fun h11 => ?_)
        ·
          obtain ⟨z, hz⟩ := getSome (l := y.kids) (i := j) (by show j < 9; omega)
          have hzd := kid_get hz
          have hzu := hyo.kids z (List.mem_of_getElem? hz)
          have hj4 : j < 4 := (by omega)
          refine RC.skip (RC.back ?_)
          refine RC.seq ?_
          refine RC.block ?_
          refine RC.seq ?_
          refine RC.region rfl ?_
          refine RL.ev (.move rfl) rfl rfl ?_
          refine RL.ev (.move rfl) rfl rfl ?_
          refine RL.ev (.field0 fo97_5 rfl) rfl rfl ?_
          refine RL.ev (.indexArr ar95 rfl rfl (by omega)) rfl rfl ?_
          refine RL.ev (.load1 sh36 rfl (hb_10.cell (kid_cell hz))) rfl rfl ?_
          refine RL.ev (.field0 fo97_5 rfl) rfl rfl ?_
          refine RL.ev (.indexArr ar95 rfl rfl (by omega)) rfl rfl ?_
          refine RL.store sh36 rfl rfl rfl hb_11 (by show 5 + j * 1 + 1 ≤ 16; omega) (by rfl) rfl (fun w12 z12 hb_11 a12 => ?_)
          have S := S.upd a12 ge_11
          have hb_4 := hb_4.upd a12 n_4__11
          have hb_10 := hb_10.upd a12 n_10__11
          have hb_11 : Has w12 b_11 (hN 2 y.gen 0 0 l.length (y.kids.take (j + 1))).cells 97 := (by rw [← kids_set 2 y.gen l.length y j (by omega) hz]; exact hb_11)
          refine RL.nil (RC.back ?_)
          refine RC.seq ?_
          refine RC.drawD (fun k => False) [] w12.heap.size 13 rfl rfl mxo (fun w13 s14 => ?_)
          have hNN : ∀ k, ((False) ∨ w12.heap.size ≤ k) → w.heap.size ≤ k := fun k e => e.elim (fun e => e.elim) (fun e => Nat.le_trans S.size e)
          have ent_S := S.size
          have hN0 : ∀ k, w12.heap.size ≤ k → w.heap.size ≤ k := fun k e => Nat.le_trans S.size e
          have ltD_b_4 := hb_4.lt
          have ltD_b_10 := hb_10.lt
          have ltD_b_11 := hb_11.lt
          have szD := Nat.le_refl w12.heap.size
          have S := S.trans s14
          have hb_4 := hb_4.sub s14
          have hb_10 := hb_10.sub s14
          have hb_11 := hb_11.sub s14
          have szD := Nat.le_trans szD s14.size
          refine RD.take 0 rfl (by kernel_rfl) (by kernel_rfl) (by kernel_rfl) (fun w' s' => .loadR ([.slice na A.nodes.length nc, .slice fa A.free.length fc]) sh34 rfl (hb_4.step s' (fun e => e.elim (fun e => e.elim) (fun e => Nat.not_le.2 ltD_b_4 e))).row rfl) rfl rfl ?_
          refine RD.take 1 rfl (by kernel_rfl) (by kernel_rfl) (by kernel_rfl) (fun w' s' => .move rfl) rfl rfl ?_
          refine RD.take 2 rfl (by kernel_rfl) (by kernel_rfl) (by kernel_rfl) (fun w' s' => .field0 fo97_5 rfl) rfl rfl ?_
          refine RD.take 3 rfl (by kernel_rfl) (by kernel_rfl) (by kernel_rfl) (fun w' s' => .indexArr ar95 rfl rfl (by omega)) rfl rfl ?_
          refine RD.take 4 rfl (by kernel_rfl) (by kernel_rfl) (by kernel_rfl) (fun w' s' => .load1 sh36 rfl ((hb_10.step s' (fun e => e.elim (fun e => e.elim) (fun e => Nat.not_le.2 ltD_b_10 e))).cell (kid_cell hz))) rfl rfl ?_
          refine RD.take 5 rfl (by kernel_rfl) (by kernel_rfl) (by kernel_rfl) (fun w' s' => .move rfl) rfl rfl ?_
          refine RD.take 6 rfl (by kernel_rfl) (by kernel_rfl) (by kernel_rfl) (fun w' s' => .move rfl) rfl rfl ?_
          refine RD.take 7 rfl (by kernel_rfl) (by kernel_rfl) (by kernel_rfl) (fun w' s' => .move rfl) rfl rfl ?_
          refine RD.take 9 rfl (by kernel_rfl) (by kernel_rfl) (by kernel_rfl) (fun w' s' => .move rfl) rfl rfl ?_
          refine RD.take 10 rfl (by kernel_rfl) (by kernel_rfl) (by kernel_rfl) (fun w' s' => .as (.bin rfl rfl rfl) (wi64 (y := ((lv + 1 : Nat) : Int)) (by omega) (by omega))) rfl rfl ?_
          refine RD.all [8] (by kernel_rfl) rfl (RDs.cons rfl ?_ (RDs.nil))
          refine RL.call rfl ok62 (c_refOf9 l a c l.length rfl lv j (by omega) w13 (hl.sub S) hb) rfl rfl ?_
          rintro _ w15 ⟨a1, c1, rfl, o1, s16⟩
          have S := S.trans s16
          have hb_4 := hb_4.sub s16
          have hb_10 := hb_10.sub s16
          have hb_11 := hb_11.sub s16
          have szD := Nat.le_trans szD s16.size
          refine RD.back s16.agr ?_
          refine RD.all [11] (by kernel_rfl) rfl (RDs.cons rfl ?_ (RDs.nil))
          refine RL.call rfl ok32 (ih z (ofL lv j l) a1 c1 _ w15 (hap.of _ _) (List.length_map _) hzu (Nat.le_trans (ofL_len _ _ _) hb) (hA.sub S) o1.sl.1) rfl rfl ?_
          rintro _ w17 ⟨rfl, s18⟩
          have S := S.trans s18
          have hb_4 := hb_4.sub s18
          have hb_10 := hb_10.sub s18
          have hb_11 := hb_11.sub s18
          have szD := Nat.le_trans szD s18.size
          refine RD.back s18.agr ?_
          refine RD.take 12 rfl (by kernel_rfl) (by kernel_rfl) (by kernel_rfl) (fun w' s' => .not rfl) rfl rfl ?_
          refine RD.done (by kernel_rfl) (RC.back ?_)
          refine RC.cond rfl (fun h19 => ?_) (fun h19 => ?_)
          ·
            have hres : isHB A (k + 1) r l = false := isHB_no (fun h => by have h2 := (hti.1 h).2 j hj4; rw [hzd, ← hlv] at h2; have h3 := h19; rw [isHB_yes h2] at h3; cases h3)
            refine RC.seq ?_
            refine RC.region rfl ?_
            refine RL.ev (.assign rfl) rfl rfl ?_
            refine RL.nil (RC.back ?_)
            refine RC.done (rs := [.tmp 8]) (vs := [_]) rfl rfl ⟨rfl, trivial⟩ ?_
            -- end 4
            rw [hres]
            exact ⟨rfl, S⟩
          ·
            have hz1 : IsH A k z (ofL lv j l) := (isHB_iff _ _ _ _).1 (by simpa using h19)
            refine RC.skip (RC.back ?_)
            refine RC.region rfl ?_
            refine RL.ev (.move rfl) rfl rfl ?_
            refine RL.ev (.as (.bin rfl rfl rfl) (wi64 (y := ((j + 1 : Nat) : Int)) (by omega) (by omega))) rfl rfl ?_
            refine RL.ev (.assign rfl) rfl rfl ?_
            exact RL.nil (fun a ka => ⟨j + 1, ⟨⟨by omega, fun q hq' => by by_cases e : q = j; (rw [e, hzd, ← hlv]; exact hz1); exact hq q (by omega)⟩, hb_4, hb_10, hb_11, S⟩, by omega, ka.keep (keep_of (by repeat (first | exact trivial | refine And.intro rfl ?_)))⟩)
        ·
          obtain rfl : j = 4 := (by omega)
          refine RC.exit rfl (RC.back ?_)
          refine RC.seq ?_
          refine RC.region rfl ?_
          refine RL.ev (.loadR (y.cells) sh97 rfl hb_10.row rfl) rfl rfl ?_
          refine RL.ev (.loadR (_) sh97 rfl hb_11.row rfl) rfl rfl ?_
          refine RL.ev (.eqS (xs := _) (ys := _) fk97 eg97 sh97 rfl rfl rfl rfl rfl) rfl rfl ?_
          refine RL.ev (.assign rfl) rfl rfl ?_
          refine RL.nil (RC.back ?_)
          refine RC.done (rs := [.tmp 8]) (vs := [_]) rfl rfl ⟨rfl, trivial⟩ ?_
          -- end 5
          refine ⟨congrArg Value.bool ?_, S⟩
          rw [eqL_cells, Bool.eq_iff_iff, isHB_iff, decide_eq_true_iff, hti]
          exact ⟨fun h => ⟨h, hq⟩, fun h => h.1⟩
set_option maxHeartbeats 1000000 in
theorem c_refIsC (A : Ar) (na fa : Option Addr) (nc fc : Nat) (hnl : A.nodes.length ≤ 1000000000) (r : Int) (l : List It) (hap : Ap l) (a : Option Addr) (c m : Nat) (hm : m = l.length) (hr : U64 r) (hb : l.length ≤ 1000000) (w : World) (hA : ArR w na fa A) (hl : Sl w a 2 (l.map It.cells)) :
    FC Try.prog 32 [arV na fa nc fc A, .int .u64 r, .slice a m c, .int .i64 10] w (Val (.bool (isHB A 0 r l)) w) := by
  subst hm
  have hf := atA_form A r
  have hNd := hA.nodes
  have hFr := hA.free
  have len0 : l.length = 0 → l = [] := List.eq_nil_of_length_eq_zero
  obtain ⟨ms, hmp, hms⟩ := srt_exists hap
  have hmpl := hmp.length_eq
  refine FC.intro Try.func32 rfl Try.ntmps32 rfl ?_
  have S := Sub.refl w
  refine RC.seq ?_
  refine RC.region rfl ?_
  refine RL.box rfl rfl rfl (fun b_4 w_4 e_4 z_4 hb_4 s_4 => ?_)
  have ge_4 := S.le e_4
  have S := S.trans s_4
  have hb_4 : Has w_4 b_4 ([.slice na A.nodes.length nc, .slice fa A.free.length fc]) _ := hb_4
  refine RL.ev (.assign rfl) rfl rfl ?_
  refine RL.nil (RC.back ?_)
  refine RC.seq ?_
  refine RC.seq ?_
  refine RC.region rfl ?_
  refine RL.ev (.move rfl) rfl rfl ?_
  refine RL.ev (.len sl26 rfl) rfl rfl ?_
  refine RL.ev (.bin rfl rfl rfl) rfl rfl ?_
  refine RL.nil (RC.back ?_)
  refine RC.cond_dec rfl (fun h1 => ?_) (fun h1 => ?_)
  ·
    have q0 : l = [] := len0 (by have := h1; omega)
    have hres : isHB A 0 r l = decide (r = 0) := (by rw [q0]; exact isHB_nil _ _ _)
    refine RC.seq ?_
    refine RC.region rfl ?_
    refine RL.ev (.move rfl) rfl rfl ?_
    refine RL.ev (.bin rfl rfl rfl) rfl rfl ?_
    refine RL.ev (.assign rfl) rfl rfl ?_
    refine RL.nil (RC.back ?_)
    refine RC.done (rs := [.tmp 8]) (vs := [_]) rfl rfl ⟨rfl, trivial⟩ ?_
    -- end 1
    rw [hres]
    exact ⟨rfl, S⟩
  ·
    have q0 : ¬ l.length = 0 := (by have := h1; omega)
    refine RC.skip (RC.back ?_)
    refine RC.seq ?_
    refine RC.seq ?_
    refine RC.region rfl ?_
    refine RL.ev (.move rfl) rfl rfl ?_
    refine RL.ev (.len sl26 rfl) rfl rfl ?_
    refine RL.ev (.bin rfl rfl rfl) rfl rfl ?_
    refine RL.nil (RC.back ?_)
    refine RC.cond_dec rfl (fun h2 => ?_) (fun h2 => ?_)
    ·
      have q1 : l.length = 1 := (by have := h2; omega)
      obtain ⟨x, hx1⟩ := List.length_eq_one_iff.1 q1
      have hx : l[0]? = some x := (by rw [hx1]; rfl)
      have hres : isHB A 0 r l = lfB A r x := (by rw [hx1]; exact isHB_one _ _ _ _)
      refine RC.seq ?_
      refine RC.draw rfl mxo (by kernel_rfl) ?_
      refine RQ.ev (.loadR ([.slice na A.nodes.length nc, .slice fa A.free.length fc]) sh34 rfl hb_4.row rfl) rfl rfl ?_
      refine RQ.ev (.move rfl) rfl rfl ?_
      refine RQ.ev (.move rfl) rfl rfl ?_
      refine RQ.ev (.indexS sl26 rfl rfl (by omega) (hl.is (i := 0) (by simp only [List.length_map, List.length_cons, List.length_nil]; omega))) rfl rfl ?_
      refine RQ.ev (.loadR (x.cells) sh29 rfl ((hl.sub S).rowAt (enc := It.cells) (i := 0) hx) rfl) rfl rfl ?_
      refine RQ.call rfl ok60 (fun w' s' => c_refLeaf A na fa nc fc hnl r hr x w' (hA.sub (S.trans s'))) rfl rfl ?_
      refine RQ.ev (.assign rfl) rfl rfl ?_
      refine RQ.nil (fun w3 s4 => RC.back ?_)
      have S := S.trans s4
      have hb_4 := hb_4.sub s4
      refine RC.done (rs := [.tmp 8]) (vs := [_]) rfl rfl ⟨rfl, trivial⟩ ?_
      -- end 2
      rw [hres]
      exact ⟨rfl, S⟩
    ·
      have q1 : 2 ≤ l.length := len_cases q0 (by have := h2; omega)
      refine RC.skip (RC.back ?_)
      refine RC.seq ?_
      refine RC.region rfl ?_
      refine RL.ev (.loadR ([.slice na A.nodes.length nc, .slice fa A.free.length fc]) sh34 rfl hb_4.row rfl) rfl rfl ?_
      refine RL.ev (.move rfl) rfl rfl ?_
      refine RL.call rfl ok61 (c_r4At A na fa nc fc r hr w_4 (hA.sub S) hnl) rfl rfl ?_
      rintro _ w5 ⟨rfl, s6⟩
      have S := S.trans s6
      have hb_4 := hb_4.sub s6
      refine RL.ev (.assign rfl) rfl rfl ?_
      refine RL.nil (RC.back ?_)
      refine RC.seq ?_
      refine RC.seq ?_
      refine RC.region rfl ?_
      refine RL.ev (.move rfl) rfl rfl ?_
      refine RL.ev (.bin rfl rfl rfl) rfl rfl ?_
      refine RL.nil (RC.back ?_)
      refine RC.cond_dec rfl (fun h7 => ?_) (fun h7 => ?_)
      ·
        have hres : isHB A 0 r l = false := isHB_none q1 (hf.1 h7)
        refine RC.seq ?_
        refine RC.region rfl ?_
        refine RL.ev (.assign rfl) rfl rfl ?_
        refine RL.nil (RC.back ?_)
        refine RC.done (rs := [.tmp 8]) (vs := [_]) rfl rfl ⟨rfl, trivial⟩ ?_
        -- end 3
        rw [hres]
        exact ⟨rfl, S⟩
      ·
        obtain ⟨y, hy, hay⟩ := hf.2 h7
        have hrg := getA_rng hy
        have hyo := hA.nok y (getA_nok hy)
        have hci := clash_iff q1 hmp hms hy
        refine RC.skip (RC.back ?_)
        refine RC.seq ?_
        refine RC.region rfl ?_
        refine RL.ev (.field0 fo34_0 rfl) rfl rfl ?_
        refine RL.ev (.load1 sh31 rfl (hb_4.cell rfl)) rfl rfl ?_
        refine RL.ev (.as (v' := .int .i64 (placeR r)) (.move rfl) (by rw [hay])) rfl rfl ?_
        refine RL.ev (.indexS sl31 rfl rfl (by omega) (hNd.is (i := 0) (by simp only [List.length_map, List.length_cons, List.length_nil]; omega))) rfl rfl ?_
        refine RL.ev (.loadR (y.cells) sh97 rfl ((hNd.sub S).rowAt (enc := Node.cells) (getA_get hy).1) rfl) rfl rfl ?_
        refine RL.alloc ze97 rfl rfl (fun b_10 w_10 e_10 z_10 hb_10 s_10 => ?_)
        have ge_10 := S.le e_10
        have n_4__10 := hb_4.ne e_10
        have S := S.trans s_10
        have hb_4 := hb_4.sub s_10
        refine RL.store sh97 rfl rfl rfl hb_10 (by exact Nat.le_of_ble_eq_true rfl) (by rfl) rfl (fun w8 z8 hb_10 a8 => ?_)
        have S := S.upd a8 ge_10
        have hb_4 := hb_4.upd a8 n_4__10
        have hb_10 : Has w8 b_10 (y.cells) _ := hb_10.now (by kernel_rfl)
        refine RL.nil (RC.back ?_)
        refine RC.seq ?_
        refine RC.region rfl ?_
        refine RL.ev (.field0 fo97_1 rfl) rfl rfl ?_
        refine RL.ev (.load1 sh3 rfl (hb_10.cell rfl)) rfl rfl ?_
        refine RL.ev (.move rfl) rfl rfl ?_
        refine RL.ev (.len sl26 rfl) rfl rfl ?_
        refine RL.ev (.buildS ze97 pl97 rfl rfl) rfl rfl ?_
        refine RL.alloc ze97 rfl rfl (fun b_11 w_11 e_11 z_11 hb_11 s_11 => ?_)
        have ge_11 := S.le e_11
        have n_4__11 := hb_4.ne e_11
        have n_10__11 := hb_10.ne e_11
        have S := S.trans s_11
        have hb_4 := hb_4.sub s_11
        have hb_10 := hb_10.sub s_11
        refine RL.store sh97 rfl rfl rfl hb_11 (by exact Nat.le_of_ble_eq_true rfl) (by rfl) rfl (fun w9 z9 hb_11 a9 => ?_)
        have S := S.upd a9 ge_11
        have hb_4 := hb_4.upd a9 n_4__11
        have hb_10 := hb_10.upd a9 n_10__11
        have hb_11 : Has w9 b_11 ((hN 2 y.gen 0 0 l.length (y.kids.take 0)).cells) _ := hb_11.now (by kernel_rfl)
        refine RL.nil (RC.back ?_)
        refine RC.seq ?_
        refine RC.seq ?_
        refine RC.region rfl ?_
        refine RL.ev (.move rfl) rfl rfl ?_
        refine RL.ev (.as (v' := .bool false) (.bin rfl rfl rfl) (congrArg Value.bool (decide_eq_false (by decide)))) rfl rfl ?_
        refine RL.nil (RC.back ?_)
        refine RC.cond_f rfl ?_
        refine RC.skip (RC.back ?_)
        refine RC.seq ?_
        refine RC.seq ?_
        refine RC.region rfl ?_
        refine RL.ev (.move rfl) rfl rfl ?_
        refine RL.ev (.len sl26 rfl) rfl rfl ?_
        refine RL.ev (.bin rfl rfl rfl) rfl rfl ?_
        refine RL.nil (RC.back ?_)
        refine RC.cond_dec rfl (fun h10 => ?_) (fun h10 => ?_)
        ·
          have hres : isHB A 0 r l = false := isHB_no (fun h => by have := (hci.1 h).1; have := h10; omega)
          refine RC.seq ?_
          refine RC.region rfl ?_
          refine RL.ev (.assign rfl) rfl rfl ?_
          refine RL.nil (RC.back ?_)
          refine RC.done (rs := [.tmp 8]) (vs := [_]) rfl rfl ⟨rfl, trivial⟩ ?_
          -- end 4
          rw [hres]
          exact ⟨rfl, S⟩
        ·
          have q9 : l.length ≤ 9 := (by have := h10; omega)
          refine RC.skip (RC.back ?_)
          refine RC.seq ?_
          refine RC.region rfl ?_
          refine RL.ev (.field0 fo97_0 rfl) rfl rfl ?_
          refine RL.store sh3 rfl rfl rfl hb_11 (by exact Nat.le_of_ble_eq_true rfl) (by rfl) rfl (fun w11 z11 hb_11 a11 => ?_)
          have S := S.upd a11 ge_11
          have hb_4 := hb_4.upd a11 n_4__11
          have hb_10 := hb_10.upd a11 n_10__11
          have hb_11 : Has w11 b_11 ((hN 4 y.gen 0 0 l.length (y.kids.take 0)).cells) _ := hb_11
          refine RL.nil (RC.back ?_)
          refine RC.seq ?_
          refine RC.region rfl ?_
          refine RL.buildSlice0 sl26 rfl rfl (fun b_79 w_79 e_79 z_79 hb_79 s_79 => ?_)
          have ge_79 := S.le e_79
          have n_4__79 := hb_4.ne e_79
          have n_10__79 := hb_10.ne e_79
          have n_11__79 := hb_11.ne e_79
          have S := S.trans s_79
          have hb_4 := hb_4.sub s_79
          have hb_10 := hb_10.sub s_79
          have hb_11 := hb_11.sub s_79
          refine RL.ev (.assign rfl) rfl rfl ?_
          refine RL.nil (RC.back ?_)
          refine RC.seq ?_
          refine RC.region rfl ?_
          refine RL.ev (.move rfl) rfl rfl ?_
          refine RL.ev (.move rfl) rfl rfl ?_
          have sz_82 := S.size
          have ltb_4_82 := hb_4.lt
          have ltb_10_82 := hb_10.lt
          have ltb_11_82 := hb_11.lt
          have ltb_79_82 := hb_79.lt
          refine RL.append2 (base := w.heap.size) (rows := []) (news := l.map It.cells) sl26 ze29 rfl rfl rfl rfl (.inl (Ows.lit0 hb_79 (by omega))) (hl.sub S) (by (try simp only [List.length_map]); first | done | rfl) (by intro r hr; obtain ⟨x, _, rfl⟩ := List.mem_map.1 hr; rfl) (by rw [List.all_eq_true]; intro r hr; obtain ⟨x, _, rfl⟩ := List.mem_map.1 hr; rfl) (by (try simp only [List.length_map, List.length_nil, List.length_append, List.length_cons]); omega) (by (try simp only [List.length_map, List.length_nil, List.length_append, List.length_cons]); omega) (by omega) rfl rfl (fun v_82 w_82 hc_82 ho_82 ag_82 ob_82 => ?_)
          have o82 := ho_82 (.inr (Ows.lit0 hb_79 (by omega)))
          have d_o82_b_4 := obNe ob_82 (fun k hk e => n_4__79.symm ((obLit hk).trans e)) hb_4.lt
          have d_o82_b_10 := obNe ob_82 (fun k hk e => n_10__79.symm ((obLit hk).trans e)) hb_10.lt
          have d_o82_b_11 := obNe ob_82 (fun k hk e => n_11__79.symm ((obLit hk).trans e)) hb_11.lt
          have S := S.agrN ag_82 (fun k e => Nat.le_trans (by omega) e.2)
          have hb_4 := hb_4.step ag_82 (fun e => n_4__79.symm (obLit e.1))
          have hb_10 := hb_10.step ag_82 (fun e => n_10__79.symm (obLit e.1))
          have hb_11 := hb_11.step ag_82 (fun e => n_11__79.symm (obLit e.1))
          obtain ⟨a_82, c_82, rfl, k_82⟩ := o82.form
          refine RL.ev (.assign rfl) rfl rfl ?_
          rw [List.nil_append] at o82
          refine RL.nil (RC.back ?_)
          refine RC.seq ?_
          refine RC.seq ?_
          refine RC.region rfl ?_
          refine RL.ev (.move rfl) rfl rfl ?_
          refine RL.ev (.len sl26 rfl) rfl rfl ?_
          refine RL.ev (.move rfl) rfl rfl ?_
          refine RL.nil (RC.back ?_)
          refine RC.block ?_
          refine RC.loop (α := Nat × List It × Option Addr × Nat × Nat) (fun x => [(4, .pointer (some ⟨b_4, 0, none⟩)), (10, .pointer (some ⟨b_10, 0, none⟩)), (11, .pointer (some ⟨b_11, 0, none⟩)), (13, .slice x.2.2.1 x.2.2.2.1 x.2.2.2.2), (84, .int .i64 (l.length : Int)), (85, .int .i64 (x.1 : Int))]) (fun x w12 => (x.1 ≤ l.length ∧ x.2.1.Perm (ms.drop x.1) ∧ ∀ j z, j < x.1 → ms[j]? = some z → lfA A (y.kids.getD j 0) z) ∧ Ows w.heap.size w12 29 2 (.slice x.2.2.1 x.2.2.2.1 x.2.2.2.2) (x.2.1.map It.cells) ∧ Has w12 b_4 [.slice na A.nodes.length nc, .slice fa A.free.length fc] 34 ∧ Has w12 b_10 y.cells 97 ∧ Has w12 b_11 (hN 4 y.gen 0 0 l.length (y.kids.take x.1)).cells 97 ∧ (∀ k, ob (.slice x.2.2.1 x.2.2.2.1 x.2.2.2.2) = some k → k ≠ b_4 ∧ k ≠ b_10 ∧ k ≠ b_11) ∧ Sub w w12) (fun x => l.length - x.1) (0, l, a_82, _, c_82) (keep_of (by repeat (first | exact trivial | refine And.intro rfl ?_))) (⟨⟨Nat.zero_le _, hmp.symm, fun j z h => absurd h (by simp only []; omega)⟩, o82, hb_4, hb_10, hb_11, fun k hk => ⟨d_o82_b_4 k hk, d_o82_b_10 k hk, d_o82_b_11 k hk⟩, S⟩) (fun x w12 hJ => ?_)
          obtain ⟨i, rest, ar, mr, cr⟩ := x; obtain ⟨⟨hi, hrp, hlo⟩, o, hb_4, hb_10, hb_11, dd, S⟩ := hJ; simp only [] at hi hrp hlo o hb_11 dd; obtain rfl := o.sl.2; have szB := S.size; have hrl := hrp.length_eq; rw [List.length_drop] at hrl; have dd4 : ∀ k, ob (.slice ar (rest.map It.cells).length cr) = some k → k ≠ b_4 := fun k hk => (dd k hk).1; have dd10 : ∀ k, ob (.slice ar (rest.map It.cells).length cr) = some k → k ≠ b_10 := fun k hk => (dd k hk).2.1; have dd11 : ∀ k, ob (.slice ar (rest.map It.cells).length cr) = some k → k ≠ b_11 := fun k hk => (dd k hk).2.2
          refine RC.seq ?_
          refine RC.region rfl ?_
          refine RL.ev (.bin rfl rfl rfl) rfl rfl ?_
          refine RL.nil (RC.back ?_)
          refine RC.seq ?_
          refine RC.cond_dec rfl (fun h13 => ?_) (fun h13 => ?_)
          ·
            have h86 := h13
            simp only [] at h86
            have hi9 : i < 9 := (by omega)
            obtain ⟨z, hz⟩ := getSome (l := y.kids) (i := i) hi9
            have hzd := kid_get hz
            have hzu := hyo.kids z (List.mem_of_getElem? hz)
            refine RC.skip (RC.back ?_)
            refine RC.seq ?_
            refine RC.block ?_
            refine RC.seq ?_
            refine RC.region rfl ?_
            refine RL.ev (.move rfl) rfl rfl ?_
            refine RL.ev (.assign rfl) rfl rfl ?_
            refine RL.nil (RC.back ?_)
            refine RC.seq ?_
            refine RC.region rfl ?_
            refine RL.ev (.move rfl) rfl rfl ?_
            refine RL.ev (.move rfl) rfl rfl ?_
            refine RL.ev (.field0 fo97_5 rfl) rfl rfl ?_
            refine RL.ev (.indexArr ar95 rfl rfl (by omega)) rfl rfl ?_
            refine RL.ev (.load1 sh36 rfl (hb_10.cell (kid_cell hz))) rfl rfl ?_
            refine RL.ev (.field0 fo97_5 rfl) rfl rfl ?_
            refine RL.ev (.indexArr ar95 rfl rfl (by omega)) rfl rfl ?_
            refine RL.store sh36 rfl rfl rfl hb_11 (by show 5 + i * 1 + 1 ≤ 16; omega) (by rfl) rfl (fun w14 z14 hb_11 a14 => ?_)
            have S := S.upd a14 ge_11
            have o := o.updD a14 dd11
            have hb_4 := hb_4.upd a14 n_4__11
            have hb_10 := hb_10.upd a14 n_10__11
            have szB := Nat.le_trans szB a14.size
            have hb_11 : Has w14 b_11 (hN 4 y.gen 0 0 l.length (y.kids.take (i + 1))).cells 97 := (by rw [← kids_set 4 y.gen l.length y i hi9 hz]; exact hb_11)
            refine RL.nil (RC.back ?_)
            refine RC.seq ?_
            refine RC.region rfl ?_
            refine RL.ev (.move rfl) rfl rfl ?_
            refine RL.call rfl ok63 (c_refLeast rest ar cr _ (List.length_map _) (by omega) w14 o.sl.1 (by omega)) rfl rfl ?_
            rintro _ w15 ⟨s16, n, x, rfl, hn, hle⟩
            have S := S.trans s16
            have o := o.sub s16
            have hb_4 := hb_4.sub s16
            have hb_10 := hb_10.sub s16
            have hb_11 := hb_11.sub s16
            have szB := Nat.le_trans szB s16.size
            obtain ⟨hmi, hrp2⟩ := least_is hms hrp hn hle
            have hnl2 := lt_of_get hn
            refine RL.ev (.assign rfl) rfl rfl ?_
            refine RL.nil (RC.back ?_)
            refine RC.seq ?_
            refine RC.seq ?_
            refine RC.draw rfl mxo (by kernel_rfl) ?_
            refine RQ.ev (.loadR ([.slice na A.nodes.length nc, .slice fa A.free.length fc]) sh34 rfl hb_4.row rfl) rfl rfl ?_
            refine RQ.ev (.move rfl) rfl rfl ?_
            refine RQ.ev (.field0 fo97_5 rfl) rfl rfl ?_
            refine RQ.ev (.indexArr ar95 rfl rfl (by omega)) rfl rfl ?_
            refine RQ.ev (.load1 sh36 rfl (hb_10.cell (kid_cell hz))) rfl rfl ?_
            refine RQ.ev (.move rfl) rfl rfl ?_
            refine RQ.ev (.move rfl) rfl rfl ?_
            refine RQ.ev (.indexS sl26 rfl rfl (by refine ⟨by omega, ?_⟩; show (n : Int) < ((rest.map It.cells).length : Nat); rw [List.length_map]; omega) (o.sl.1.is (i := 0) (by simp only [List.length_map, List.length_cons, List.length_nil]; omega))) rfl rfl ?_
            refine RQ.ev (.loadR (x.cells) sh29 rfl ((o.sl.1).rowAt (enc := It.cells) (i := n) hn) rfl) rfl rfl ?_
            refine RQ.call rfl ok60 (fun w' s' => c_refLeaf A na fa nc fc hnl z hzu x w' (hA.sub (S.trans s'))) rfl rfl ?_
            refine RQ.ev (.not rfl) rfl rfl ?_
            refine RQ.nil (fun w17 s18 => RC.back ?_)
            have S := S.trans s18
            have o := o.sub s18
            have hb_4 := hb_4.sub s18
            have hb_10 := hb_10.sub s18
            have hb_11 := hb_11.sub s18
            have szB := Nat.le_trans szB s18.size
            refine RC.cond rfl (fun h19 => ?_) (fun h19 => ?_)
            ·
              have hres : isHB A 0 r l = false := isHB_no (fun h => by have h2 := (hci.1 h).2.2 i x hmi; rw [hzd] at h2; have h3 := h19; rw [(lfB_iff _ _ _).2 h2] at h3; cases h3)
              refine RC.seq ?_
              refine RC.region rfl ?_
              refine RL.ev (.assign rfl) rfl rfl ?_
              refine RL.nil (RC.back ?_)
              refine RC.done (rs := [.tmp 8]) (vs := [_]) rfl rfl ⟨rfl, trivial⟩ ?_
              -- end 5
              rw [hres]
              exact ⟨rfl, S⟩
            ·
              have hlx : lfA A z x := (lfB_iff _ _ _).1 (by simpa using h19)
              have hcr : rest.length ≤ cr := (by obtain ⟨_, c', e, h⟩ := o.form; cases e; rw [List.length_map] at h; exact h)
              have ht1 : (rest.take n).length = n := (by rw [List.length_take]; omega)
              have ht2 : (rest.drop (n + 1)).length = rest.length - (n + 1) := List.length_drop
              refine RC.skip (RC.back ?_)
              refine RC.seq ?_
              refine RC.region rfl ?_
              refine RL.buildSlice0 sl26 rfl rfl (fun b_108 w_108 e_108 z_108 hb_108 s_108 => ?_)
              have ge_108 := S.le e_108
              have n_4__108 := hb_4.ne e_108
              have n_10__108 := hb_10.ne e_108
              have n_11__108 := hb_11.ne e_108
              have d_o_b_108 := o.neNew e_108
              have S := S.trans s_108
              have o := o.sub s_108
              have hb_4 := hb_4.sub s_108
              have hb_10 := hb_10.sub s_108
              have hb_11 := hb_11.sub s_108
              have szB := Nat.le_trans szB s_108.size
              refine RL.ev (.assign rfl) rfl rfl ?_
              refine RL.nil (RC.back ?_)
              refine RC.seq ?_
              refine RC.region rfl ?_
              refine RL.ev (.move rfl) rfl rfl ?_
              refine RL.ev (.move rfl) rfl rfl ?_
              refine RL.ev (.move rfl) rfl rfl ?_
              refine RL.ev (.as (v' := .slice ar (rest.take n).length cr) (.sliceHi sl26 rfl rfl (by simp only []; omega)) (by rw [List.length_take, Nat.min_eq_left (by omega)]; rfl)) rfl rfl ?_
              have sz_113 := S.size
              have ltb_4_113 := hb_4.lt
              have ltb_10_113 := hb_10.lt
              have ltb_11_113 := hb_11.lt
              have ltb_108_113 := hb_108.lt
              refine RL.append2 (base := w.heap.size) (rows := []) (news := (rest.take n).map It.cells) sl26 ze29 rfl rfl rfl rfl (.inl (Ows.lit0 hb_108 (by omega))) (slTakeM o.sl.1 n) (by (try simp only [List.length_map]); first | done | rfl) (by intro r hr; obtain ⟨x, _, rfl⟩ := List.mem_map.1 hr; rfl) (by rw [List.all_eq_true]; intro r hr; obtain ⟨x, _, rfl⟩ := List.mem_map.1 hr; rfl) (by (try simp only [List.length_map, List.length_nil, List.length_append, List.length_cons]); omega) (by (try simp only [List.length_map, List.length_nil, List.length_append, List.length_cons]); omega) (by omega) rfl rfl (fun v_113 w_113 hc_113 ho_113 ag_113 ob_113 => ?_)
              have o113 := ho_113 (.inr (Ows.lit0 hb_108 (by omega)))
              have dd_o113_o := obDD ob_113 (fun k hk h2 => d_o_b_108 k h2 (obLit hk).symm) (fun k hk => (o.ge k hk).2)
              have d_o113_b_4 := obNe ob_113 (fun k hk e => n_4__108.symm ((obLit hk).trans e)) hb_4.lt
              have d_o113_b_10 := obNe ob_113 (fun k hk e => n_10__108.symm ((obLit hk).trans e)) hb_10.lt
              have d_o113_b_11 := obNe ob_113 (fun k hk e => n_11__108.symm ((obLit hk).trans e)) hb_11.lt
              have S := S.agrN ag_113 (fun k e => Nat.le_trans (by omega) e.2)
              have o := o.step ag_113 (fun k hk e => (fun k hk h2 => d_o_b_108 k h2 (obLit hk).symm) k e.1 hk)
              have hb_4 := hb_4.step ag_113 (fun e => n_4__108.symm (obLit e.1))
              have hb_10 := hb_10.step ag_113 (fun e => n_10__108.symm (obLit e.1))
              have hb_11 := hb_11.step ag_113 (fun e => n_11__108.symm (obLit e.1))
              have szB := Nat.le_trans szB ag_113.size
              obtain ⟨a_113, c_113, rfl, k_113⟩ := o113.form
              refine RL.ev (.assign rfl) rfl rfl ?_
              rw [List.nil_append] at o113
              refine RL.nil (RC.back ?_)
              refine RC.seq ?_
              refine RC.region rfl ?_
              refine RL.ev (.move rfl) rfl rfl ?_
              refine RL.ev (.move rfl) rfl rfl ?_
              refine RL.ev (.move rfl) rfl rfl ?_
              refine RL.ev (.as (.bin rfl rfl rfl) (wi64 (y := ((n + 1 : Nat) : Int)) (by omega) (by omega))) rfl rfl ?_
              refine RL.ev (.as (v' := .slice (if cr = n + 1 then ar else ar.map (·.add ((n + 1) * 2))) (rest.drop (n + 1)).length (cr - (n + 1))) (.sliceLo sl26 rfl rfl (by simp only [List.length_map]; omega)) (by rw [List.length_drop]; first | rfl | (simp only [List.length_map]; rfl))) rfl rfl ?_
              have sz_119 := S.size
              have ltb_4_119 := hb_4.lt
              have ltb_10_119 := hb_10.lt
              have ltb_11_119 := hb_11.lt
              refine RL.append2 (base := w.heap.size) (rows := (rest.take n).map It.cells) (news := (rest.drop (n + 1)).map It.cells) sl26 ze29 rfl rfl rfl rfl (.inl o113) (slDropM o.sl.1 (n + 1) hcr) (by (try simp only [List.length_map]); first | done | rfl) (by intro r hr; obtain ⟨x, _, rfl⟩ := List.mem_map.1 hr; rfl) (by rw [List.all_eq_true]; intro r hr; obtain ⟨x, _, rfl⟩ := List.mem_map.1 hr; rfl) (by (try simp only [List.length_map, List.length_nil, List.length_append, List.length_cons]); omega) (by (try simp only [List.length_map, List.length_nil, List.length_append, List.length_cons]); omega) (by omega) rfl rfl (fun v_119 w_119 hc_119 ho_119 ag_119 ob_119 => ?_)
              have o119 := ho_119 (.inr o113)
              have dd_o119_o := obDD ob_119 dd_o113_o (fun k hk => (o.ge k hk).2)
              have d_o119_b_4 := obNe ob_119 d_o113_b_4 hb_4.lt
              have d_o119_b_10 := obNe ob_119 d_o113_b_10 hb_10.lt
              have d_o119_b_11 := obNe ob_119 d_o113_b_11 hb_11.lt
              have S := S.agrN ag_119 (fun k e => Nat.le_trans (by omega) e.2)
              have o := o.step ag_119 (fun k hk e => dd_o113_o k e.1 hk)
              have hb_4 := hb_4.step ag_119 (fun e => d_o113_b_4 _ e.1 rfl)
              have hb_10 := hb_10.step ag_119 (fun e => d_o113_b_10 _ e.1 rfl)
              have hb_11 := hb_11.step ag_119 (fun e => d_o113_b_11 _ e.1 rfl)
              have szB := Nat.le_trans szB ag_119.size
              obtain ⟨a_119, c_119, rfl, k_119⟩ := o119.form
              refine RL.ev (.assign rfl) rfl rfl ?_
              refine RL.nil (RC.back ?_)
              refine RC.region rfl ?_
              refine RL.ev (.move rfl) rfl rfl ?_
              refine RL.ev (.assign rfl) rfl rfl ?_
              refine RL.nil (RC.back ?_)
              refine RC.region rfl ?_
              refine RL.ev (.as (.bin rfl rfl rfl) (wi64 (y := ((i + 1 : Nat) : Int)) (by simp only []; omega) (by omega))) rfl rfl ?_
              refine RL.ev (.move rfl) rfl rfl ?_
              exact RL.nil (fun a ka => ⟨(i + 1, rest.take n ++ rest.drop (n + 1), a_119, _, c_119), ⟨⟨by simp only []; omega, hrp2, fun j t hj ht => by simp only [] at hj; by_cases e : j = i; (rw [e, hmi] at ht; cases ht; rw [e, hzd]; exact hlx); exact hlo j t (by omega) ht⟩, by show Ows _ _ _ _ _ ((rest.take n ++ rest.drop (n + 1)).map It.cells); rw [List.map_append]; exact o119, hb_4, hb_10, hb_11, fun k hk => ⟨d_o119_b_4 k hk, d_o119_b_10 k hk, d_o119_b_11 k hk⟩, S⟩, by simp only []; omega, ka.keep (keep_of (by repeat (first | exact trivial | refine And.intro rfl ?_)))⟩)
          ·
            have h86 := h13
            simp only [] at h86
            obtain rfl : i = l.length := (by omega)
            refine RC.exit rfl (RC.back ?_)
            refine RC.seq ?_
            refine RC.region rfl ?_
            refine RL.ev (.loadR (y.cells) sh97 rfl hb_10.row rfl) rfl rfl ?_
            refine RL.ev (.loadR (_) sh97 rfl hb_11.row rfl) rfl rfl ?_
            refine RL.ev (.eqS (xs := _) (ys := _) fk97 eg97 sh97 rfl rfl rfl rfl rfl) rfl rfl ?_
            refine RL.ev (.assign rfl) rfl rfl ?_
            refine RL.nil (RC.back ?_)
            refine RC.done (rs := [.tmp 8]) (vs := [_]) rfl rfl ⟨rfl, trivial⟩ ?_
            -- end 6
            refine ⟨congrArg Value.bool ?_, S⟩
            rw [eqL_cells, Bool.eq_iff_iff, isHB_iff, decide_eq_true_iff, hci, hmpl]
            exact ⟨fun h => ⟨q9, h, fun j t ht => hlo j t (by have := lt_of_get ht; omega) ht⟩, fun h => h.2.1⟩
theorem c_refIsH (A : Ar) (na fa : Option Addr) (nc fc : Nat) (hnl : A.nodes.length ≤ 1000000000) : ∀ (k lv : Nat) (r : Int) (l : List It) (a : Option Addr) (c m : Nat) (w : World), k ≤ 10 → lv = 10 - k → Ap l → m = l.length → U64 r → l.length ≤ 1000000 → ArR w na fa A → Sl w a 2 (l.map It.cells) →
    FC Try.prog 32 [arV na fa nc fc A, .int .u64 r, .slice a m c, .int .i64 (lv : Int)] w (Val (.bool (isHB A k r l)) w)
  | 0, lv, r, l, a, c, m, w, hk, hlv, hap, hm, hr, hb, hA, hl => by
    obtain rfl : lv = 10 := by omega
    exact c_refIsC A na fa nc fc hnl r l hap a c m hm hr hb w hA hl
  | k + 1, lv, r, l, a, c, m, w, hk, hlv, hap, hm, hr, hb, hA, hl =>
    c_refIsT A na fa nc fc hnl k lv (by omega) (by omega) r l hap a c m hm hr hb w hA hl (fun r' l' a' c' m' w' h1 h2 h3 h4 h5 h6 => c_refIsH A na fa nc fc hnl k (lv + 1) r' l' a' c' m' w' (by omega) (by omega) h1 h2 h3 h4 h5 h6)
end Go.Proofs.Ytbfjobmebkhblaa
set_option linter.unusedVariables false
set_option linter.unusedSimpArgs false
namespace Go.Proofs.Ytbfjobmebkhblaa
open Go Go.XL
/-- the keys and values of a table as its nodes stand -/
def rdF (A : Ar) : Nat → Int → List It
  | 0, _ => []
  | k + 1, r => match getA A r with
    | none => []
    | some y => if y.kind = 3 then [⟨y.n, y.v⟩] else y.kids.flatMap (rdF A k)
/-- the places of its nodes -/
def plF (A : Ar) : Nat → Int → List Int
  | 0, _ => []
  | k + 1, r => match getA A r with
    | none => []
    | some y => placeR r :: (if y.kind = 3 then [] else y.kids.flatMap (plF A k))
theorem rdF_no {A : Ar} {k : Nat} {r : Int} (h : getA A r = none) : rdF A k r = [] := by cases k with | zero => rfl | succ k => rw [rdF, h]
theorem plF_no {A : Ar} {k : Nat} {r : Int} (h : getA A r = none) : plF A k r = [] := by cases k with | zero => rfl | succ k => rw [plF, h]
theorem rdF_leaf {A : Ar} {k : Nat} {r : Int} {x : It} (h : lfA A r x) : rdF A (k + 1) r = [x] := by obtain ⟨g, h⟩ := h; rw [rdF, h]; rfl
theorem plF_leaf {A : Ar} {k : Nat} {r : Int} {x : It} (h : lfA A r x) : plF A (k + 1) r = [placeR r] := by obtain ⟨g, h⟩ := h; rw [plF, h]; rfl
theorem rdF_node {A : Ar} {k : Nat} {r : Int} {y : Node} (h : getA A r = some y) (h3 : ¬ y.kind = 3) : rdF A (k + 1) r = y.kids.flatMap (rdF A k) := by rw [rdF, h]; exact if_neg h3
theorem plF_node {A : Ar} {k : Nat} {r : Int} {y : Node} (h : getA A r = some y) (h3 : ¬ y.kind = 3) : plF A (k + 1) r = placeR r :: y.kids.flatMap (plF A k) := by rw [plF, h]; exact congrArg _ (if_neg h3)
theorem kids4 {α : Type} {y : Node} (h : ∀ j, 4 ≤ j → j < 9 → y.kids.getD j 0 = 0) (f : Int → List α) (f0 : f 0 = []) : y.kids.flatMap f = f (y.kids.getD 0 0) ++ (f (y.kids.getD 1 0) ++ (f (y.kids.getD 2 0) ++ f (y.kids.getD 3 0))) := by
  have h4 : y.k4 = 0 := h 4 (by omega) (by omega)
  have h5 : y.k5 = 0 := h 5 (by omega) (by omega)
  have h6 : y.k6 = 0 := h 6 (by omega) (by omega)
  have h7 : y.k7 = 0 := h 7 (by omega) (by omega)
  have h8 : y.k8 = 0 := h 8 (by omega) (by omega)
  simp only [Node.kids, List.flatMap_cons, List.flatMap_nil, h4, h5, h6, h7, h8, f0, List.append_nil, List.nil_append]
  rfl
theorem trie_zero {A : Ar} {k : Nat} {r : Int} {L : List It} (h : IsH A (k + 1) r L) (hl : 2 ≤ L.length) : ∃ y, getA A r = some y ∧ y.kind = 2 ∧ y.s = L.length ∧ (∀ i, i < 4 → IsH A k (y.kids.getD i 0) (ofL (9 - k) i L)) ∧ ∀ j, 4 ≤ j → j < 9 → y.kids.getD j 0 = 0 := by
  obtain ⟨g, ks, h1, h2, h3⟩ := (isH_trie hl).1 h
  exact ⟨_, h2, rfl, rfl, fun i hi => by rw [hN_kid (by omega)]; exact h3 i hi, fun j h4 h9 => by rw [hN_kid h9, List.getD_eq_getElem?_getD, List.getElem?_eq_none (by omega)]; rfl⟩
theorem flat_leaves {α : Type} {f : Int → List α} {g : It → α} : ∀ (ks : List Int) (m : List It), (∀ i x, m[i]? = some x → f (ks.getD i 0) = [g x]) → (∀ i, m.length ≤ i → i < ks.length → f (ks.getD i 0) = []) → m.length ≤ ks.length → ks.flatMap f = m.map g
  | [], m, _, _, hl => by rw [List.eq_nil_of_length_eq_zero (show m.length = 0 by simpa using hl)]; rfl
  | z :: ks, [], h1, h2, _ => by
    have h0 := h2 0 (Nat.zero_le _) (by simp)
    have ih := flat_leaves ks [] (fun i x h => by cases h) (fun i _ hi => h2 (i + 1) (Nat.zero_le _) (by simpa using hi)) (Nat.zero_le _) (g := g)
    rw [List.flatMap_cons, ih]
    exact (congrArg (· ++ _) h0).trans rfl
  | z :: ks, x :: m, h1, h2, hl => by
    have h0 := h1 0 x rfl
    have ih := flat_leaves ks m (fun i y hy => h1 (i + 1) y hy) (fun i h3 h4 => h2 (i + 1) (by simpa using h3) (by simpa using h4)) (by simpa using hl)
    rw [List.flatMap_cons, ih]
    exact (congrArg (· ++ _) h0).trans rfl
theorem rd_clash {A : Ar} {f : Nat} {r : Int} {y : Node} {m : List It} (hy : getA A r = some y) (h4 : y.kind = 4) (hm9 : m.length ≤ 9) (hlf : ∀ i x, m[i]? = some x → lfA A (y.kids.getD i 0) x) (hz : ∀ i, m.length ≤ i → i < 9 → y.kids.getD i 0 = 0) : rdF A (f + 2) r = m := by
  rw [rdF_node hy (by omega), flat_leaves (g := id) y.kids m (fun i x hx => rdF_leaf (hlf i x hx)) (fun i h1 h2 => by rw [hz i h1 h2]; exact rdF_no (getA_z A)) hm9, List.map_id]
theorem rd_perm {A : Ar} : ∀ {k f : Nat} {r : Int} {L : List It}, IsH A k r L → (rdF A (k + f + 2) r).Perm L
  | k, f, r, L, h => by
    rcases row_cases L with rfl | ⟨x, rfl⟩ | h2
    · rw [isH_nil.1 h, rdF_no (getA_z A)]
    · rw [rdF_leaf (isH_one.1 h)]
    · cases k with
      | zero =>
        obtain ⟨y, m, q1, q2, _, q3, _, _, q6, q7, q8⟩ := clash_node ((isH_clash h2).1 h) h2
        rw [rd_clash q1 q2 q6 q7 q8]; exact q3
      | succ k =>
        obtain ⟨y, q1, q2, _, q4, q5⟩ := trie_zero h h2
        rw [show k + 1 + f + 2 = (k + f + 2) + 1 by omega, rdF_node q1 (by omega), kids4 q5 _ (rdF_no (getA_z A))]
        exact ((rd_perm (f := f) (q4 0 (by omega))).append ((rd_perm (f := f) (q4 1 (by omega))).append ((rd_perm (f := f) (q4 2 (by omega))).append (rd_perm (f := f) (q4 3 (by omega)))))).trans (part_perm (9 - k) L)
theorem ref_eq {A : Ar} {r r' : Int} {y y' : Node} (h : getA A r = some y) (h' : getA A r' = some y') (e : placeR r = placeR r') : r = r' := by
  have n1 : nodeR r := Classical.byContradiction fun hn => by have := (getA_rng h).1; rw [placeR_not hn] at this; omega
  have n2 : nodeR r' := Classical.byContradiction fun hn => by have := (getA_rng h').1; rw [placeR_not hn] at this; omega
  have g1 := (getA_get h).1
  have g2 := (getA_get h').1
  rw [e, g2] at g1
  obtain rfl : y' = y := Option.some.inj g1
  have q1 : y'.gen = genR r := by
    unfold getA at h
    split at h
    · cases h
    · split at h
      · cases h
      · split at h
        · cases h
        · rename_i hh; cases h; exact Decidable.not_not.1 fun x => hh (.inr x)
  have q2 : y'.gen = genR r' := by
    unfold getA at h'
    split at h'
    · cases h'
    · split at h'
      · cases h'
      · split at h'
        · cases h'
        · rename_i hh; cases h'; exact Decidable.not_not.1 fun x => hh (.inr x)
  rw [q1] at q2
  unfold genR at q2
  rw [if_pos n1, if_pos n2] at q2
  unfold placeR at e
  rw [if_pos n1, if_pos n2] at e
  omega
theorem pl_clash {A : Ar} {f : Nat} {r : Int} {y : Node} {m : List It} (hy : getA A r = some y) (h4 : y.kind = 4) (hm9 : m.length ≤ 9) (hlf : ∀ i x, m[i]? = some x → lfA A (y.kids.getD i 0) x) (hz : ∀ i, m.length ≤ i → i < 9 → y.kids.getD i 0 = 0) : plF A (f + 2) r = placeR r :: (y.kids.take m.length).map placeR := by
  have hl : (y.kids.take m.length).length = m.length := by rw [List.length_take]; show min _ 9 = _; omega
  rw [plF_node hy (by omega)]
  refine congrArg _ ?_
  conv => lhs; rw [← List.take_append_drop m.length y.kids]
  rw [List.flatMap_append]
  have e1 : ∀ l : List Int, (∀ z ∈ l, plF A (f + 1) z = [placeR z]) → l.flatMap (plF A (f + 1)) = l.map placeR := by
    intro l
    induction l with
    | nil => intro _; rfl
    | cons z l ih => intro h; rw [List.flatMap_cons, h z (by simp), ih (fun t ht => h t (by simp [ht]))]; rfl
  have e2 : ∀ l : List Int, (∀ z ∈ l, z = 0) → l.flatMap (plF A (f + 1)) = [] := by
    intro l
    induction l with
    | nil => intro _; rfl
    | cons z l ih => intro h; rw [List.flatMap_cons, h z (by simp), plF_no (getA_z A), ih (fun t ht => h t (by simp [ht]))]; rfl
  rw [e1 _ fun z hz' => ?_, e2 _ fun z hz' => ?_, List.append_nil]
  · obtain ⟨j, hj⟩ := List.getElem?_of_mem hz'
    rw [List.getElem?_drop] at hj
    have h5 := lt_of_get hj
    have h6 := hz (m.length + j) (by omega) h5
    rw [List.getD_eq_getElem?_getD, hj] at h6
    exact h6
  · obtain ⟨j, hj⟩ := List.getElem?_of_mem hz'
    have h5 := lt_of_get hj
    obtain ⟨x, hx⟩ := getSome (l := m) (i := j) (by omega)
    have h6 := hlf j x hx
    rw [List.getElem?_take_of_lt (by omega)] at hj
    rw [List.getD_eq_getElem?_getD, hj] at h6
    exact plF_leaf h6
/-- fuel does not matter -/
theorem pl_fuel {A : Ar} : ∀ {k : Nat} {r : Int} {L : List It}, IsH A k r L → ∀ f, plF A (k + f + 2) r = plF A (k + 2) r
  | k, r, L, h, f => by
    rcases row_cases L with rfl | ⟨x, rfl⟩ | h2
    · rw [isH_nil.1 h, plF_no (getA_z A), plF_no (getA_z A)]
    · rw [plF_leaf (isH_one.1 h), plF_leaf (isH_one.1 h)]
    · cases k with
      | zero =>
        obtain ⟨y, m, q1, q2, _, q3, _, _, q6, q7, q8⟩ := clash_node ((isH_clash h2).1 h) h2
        rw [pl_clash q1 q2 q6 q7 q8, Nat.zero_add, pl_clash (f := 0) q1 q2 q6 q7 q8]
      | succ k =>
        obtain ⟨y, q1, q2, _, q4, q5⟩ := trie_zero h h2
        rw [show k + 1 + f + 2 = (k + f + 2) + 1 by omega, show k + 1 + 2 = (k + 2) + 1 by omega, plF_node q1 (by omega), plF_node q1 (by omega), kids4 q5 _ (plF_no (getA_z A)), kids4 q5 _ (plF_no (getA_z A)), pl_fuel (q4 0 (by omega)) f, pl_fuel (q4 1 (by omega)) f, pl_fuel (q4 2 (by omega)) f, pl_fuel (q4 3 (by omega)) f]
theorem IsH.some {A : Ar} {k : Nat} {r : Int} {L : List It} (h : IsH A k r L) (hl : ¬ L = []) : ∃ y, getA A r = some y := by
  rcases row_cases L with rfl | ⟨x, rfl⟩ | h2
  · exact absurd rfl hl
  · obtain ⟨g, e⟩ := isH_one.1 h; exact ⟨_, e⟩
  · obtain ⟨_, _, _, _, e⟩ := h.node h2; exact ⟨_, e⟩
/-- a place of a table is that of a table in it -/
theorem pl_mem {A : Ar} (f : Nat) {p : Int} : ∀ {k : Nat} {r : Int} {L : List It}, IsH A k r L → p ∈ plF A (k + f + 2) r → ∃ k' r' L', k' ≤ k ∧ IsH A k' r' L' ∧ ¬ L' = [] ∧ (∀ z ∈ L', z ∈ L) ∧ placeR r' = p ∧ (plF A (k' + f + 2) r').length ≤ (plF A (k + f + 2) r).length
  | k, r, L, h, hp => by
    rcases row_cases L with rfl | ⟨x, rfl⟩ | h2
    · rw [isH_nil.1 h, plF_no (getA_z A)] at hp; cases hp
    · rw [plF_leaf (isH_one.1 h), List.mem_singleton] at hp
      exact ⟨k, r, [x], Nat.le_refl _, h, by simp, fun z hz => hz, hp.symm, Nat.le_refl _⟩
    · have hne : ¬ L = [] := fun e => by rw [e] at h2; simp at h2
      cases k with
      | zero =>
        obtain ⟨y, m, q1, q2, _, q3, _, _, q6, q7, q8⟩ := clash_node ((isH_clash h2).1 h) h2
        rw [Nat.zero_add, pl_clash q1 q2 q6 q7 q8] at hp
        rcases List.mem_cons.1 hp with e | hp
        · exact ⟨0, r, L, Nat.le_refl _, h, hne, fun z hz => hz, e.symm, Nat.le_refl _⟩
        · obtain ⟨z, hz, rfl⟩ := List.mem_map.1 hp
          obtain ⟨j, hj⟩ := List.getElem?_of_mem hz
          have h5 := lt_of_get hj
          rw [List.length_take] at h5
          obtain ⟨x, hx⟩ := getSome (l := m) (i := j) (by omega)
          have h6 := q7 j x hx
          rw [List.getElem?_take_of_lt (by omega)] at hj
          rw [List.getD_eq_getElem?_getD, hj] at h6
          refine ⟨0, z, [x], Nat.le_refl _, isH_one.2 h6, by simp, fun t ht => by rw [List.mem_singleton.1 ht]; exact q3.mem_iff.1 (List.mem_of_getElem? hx), rfl, ?_⟩
          have h7 : plF A (0 + f + 2) z = [placeR z] := plF_leaf h6
          rw [h7, Nat.zero_add, pl_clash q1 q2 q6 q7 q8]; simp
      | succ k =>
        obtain ⟨y, q1, q2, _, q4, q5⟩ := trie_zero h h2
        have ee : plF A (k + 1 + f + 2) r = placeR r :: (plF A (k + f + 2) (y.kids.getD 0 0) ++ (plF A (k + f + 2) (y.kids.getD 1 0) ++ (plF A (k + f + 2) (y.kids.getD 2 0) ++ plF A (k + f + 2) (y.kids.getD 3 0)))) := by
          rw [show k + 1 + f + 2 = (k + f + 2) + 1 by omega, plF_node q1 (by omega), kids4 q5 _ (plF_no (getA_z A))]
        rw [ee] at hp
        have key : ∀ i, i < 4 → p ∈ plF A (k + f + 2) (y.kids.getD i 0) → (plF A (k + f + 2) (y.kids.getD i 0)).length ≤ (plF A (k + 1 + f + 2) r).length → ∃ k' r' L', k' ≤ k + 1 ∧ IsH A k' r' L' ∧ ¬ L' = [] ∧ (∀ z ∈ L', z ∈ L) ∧ placeR r' = p ∧ (plF A (k' + f + 2) r').length ≤ (plF A (k + 1 + f + 2) r).length := fun i hi hpi hle => by
          obtain ⟨k', r', L', a1, a2, a3, a4, a5, a6⟩ := pl_mem f (q4 i hi) hpi
          exact ⟨k', r', L', by omega, a2, a3, fun z hz => (ofL_mem.1 (a4 z hz)).1, a5, by omega⟩
        have hll := congrArg List.length ee
        simp only [List.length_cons, List.length_append] at hll
        rcases List.mem_cons.1 hp with e | hp
        · exact ⟨k + 1, r, L, Nat.le_refl _, h, hne, fun z hz => hz, e.symm, Nat.le_refl _⟩
        · rcases List.mem_append.1 hp with hp | hp
          · exact key 0 (by omega) hp (by omega)
          · rcases List.mem_append.1 hp with hp | hp
            · exact key 1 (by omega) hp (by omega)
            · rcases List.mem_append.1 hp with hp | hp
              · exact key 2 (by omega) hp (by omega)
              · exact key 3 (by omega) hp (by omega)
theorem pl_dis {A : Ar} {k i j : Nat} {f : Nat} {p : Int} {L : List It} {lv : Nat} {ri rj : Int} (hi : IsH A k ri (ofL lv i L)) (hj : IsH A k rj (ofL lv j L)) (hij : ¬ i = j) (h1 : p ∈ plF A (k + f + 2) ri) (h2 : p ∈ plF A (k + f + 2) rj) : False := by
  obtain ⟨k1, r1, L1, _, a2, a3, a4, a5, _⟩ := pl_mem f hi h1
  obtain ⟨k2, r2, L2, _, b2, b3, b4, b5, _⟩ := pl_mem f hj h2
  obtain ⟨y1, s1⟩ := a2.some a3
  obtain ⟨y2, s2⟩ := b2.some b3
  obtain rfl : r1 = r2 := ref_eq s1 s2 (a5.trans b5.symm)
  have p1 := rd_perm (f := k2) a2
  have p2 := rd_perm (f := k1) b2
  rw [Nat.add_comm k2 k1] at p2
  have pp := p1.symm.trans p2
  obtain ⟨z, hz⟩ := List.exists_mem_of_ne_nil _ a3
  have q1 := (ofL_mem.1 (a4 z hz)).2
  have q2 := (ofL_mem.1 (b4 z (pp.mem_iff.1 hz))).2
  omega
theorem pl_nodup {A : Ar} (f : Nat) : ∀ {k : Nat} {r : Int} {L : List It}, IsH A k r L → Ap L → (plF A (k + f + 2) r).Nodup
  | k, r, L, h, hap => by
    rcases row_cases L with rfl | ⟨x, rfl⟩ | h2
    · rw [isH_nil.1 h, plF_no (getA_z A)]; exact List.nodup_nil
    · rw [plF_leaf (isH_one.1 h)]; simp
    · cases k with
      | zero =>
        obtain ⟨y, m, q1, q2, _, q3, q4, _, q6, q7, q8⟩ := clash_node ((isH_clash h2).1 h) h2
        rw [Nat.zero_add, pl_clash q1 q2 q6 q7 q8]
        have lf : ∀ (j : Nat) z, (y.kids.take m.length)[j]? = some z → ∃ x, m[j]? = some x ∧ lfA A z x := fun j z hj => by
          have h5 := lt_of_get hj
          rw [List.length_take] at h5
          obtain ⟨x, hx⟩ := getSome (l := m) (i := j) (by omega)
          have h6 := q7 j x hx
          rw [List.getElem?_take_of_lt (by omega)] at hj
          rw [List.getD_eq_getElem?_getD, hj] at h6
          exact ⟨x, hx, h6⟩
        refine List.nodup_cons.2 ⟨fun hin => ?_, ?_⟩
        · obtain ⟨z, hz, e⟩ := List.mem_map.1 hin
          obtain ⟨j, hj⟩ := List.getElem?_of_mem hz
          obtain ⟨x, _, g, hg⟩ := lf j z hj
          obtain rfl := ref_eq hg q1 e
          rw [q1] at hg
          cases hg
          exact absurd q2 (show ¬ (3 : Int) = 4 by decide)
        · refine List.pairwise_iff_getElem.2 fun i j hi hj hij e => ?_
          rw [List.getElem_map, List.getElem_map] at e
          rw [List.length_map] at hi hj
          obtain ⟨x1, g1, u1, e1⟩ := lf i _ (List.getElem?_eq_getElem hi)
          obtain ⟨x2, g2, u2, e2⟩ := lf j _ (List.getElem?_eq_getElem hj)
          have er := ref_eq e1 e2 e
          rw [er, e2] at e1
          simp only [hN, Option.some.injEq, Node.mk.injEq] at e1
          have hk : x1.k = x2.k := e1.2.2.1.symm
          have := List.pairwise_iff_getElem.1 q4 i j (lt_of_get g1) (lt_of_get g2) hij
          rw [getElem_of g1, getElem_of g2] at this
          omega
      | succ k =>
        obtain ⟨y, q1, q2, _, q4, q5⟩ := trie_zero h h2
        have ee : plF A (k + 1 + f + 2) r = placeR r :: (plF A (k + f + 2) (y.kids.getD 0 0) ++ (plF A (k + f + 2) (y.kids.getD 1 0) ++ (plF A (k + f + 2) (y.kids.getD 2 0) ++ plF A (k + f + 2) (y.kids.getD 3 0)))) := by
          rw [show k + 1 + f + 2 = (k + f + 2) + 1 by omega, plF_node q1 (by omega), kids4 q5 _ (plF_no (getA_z A))]
        have hll := congrArg List.length ee
        simp only [List.length_cons, List.length_append] at hll
        have root : ∀ i, i < 4 → (plF A (k + f + 2) (y.kids.getD i 0)).length < (plF A (k + 1 + f + 2) r).length → ¬ placeR r ∈ plF A (k + f + 2) (y.kids.getD i 0) := fun i hi hlt hin => by
          obtain ⟨k', r', L', a1, a2, a3, _, a5, a6⟩ := pl_mem f (q4 i hi) hin
          obtain ⟨y', s'⟩ := a2.some a3
          obtain rfl := ref_eq s' q1 a5
          have e1 := pl_fuel a2 f
          have e2 := pl_fuel a2 (f + (k + 1 - k'))
          rw [show k' + (f + (k + 1 - k')) + 2 = k + 1 + f + 2 by omega] at e2
          rw [e1, ← e2] at a6
          omega
        have nd : ∀ i, i < 4 → (plF A (k + f + 2) (y.kids.getD i 0)).Nodup := fun i hi => pl_nodup f (q4 i hi) (hap.of _ _)
        have ds : ∀ i j, i < 4 → j < 4 → ¬ i = j → ∀ p, p ∈ plF A (k + f + 2) (y.kids.getD i 0) → p ∈ plF A (k + f + 2) (y.kids.getD j 0) → False := fun i j hi hj hij p h1 h2 => pl_dis (q4 i hi) (q4 j hj) hij h1 h2
        rw [ee]
        refine List.nodup_cons.2 ⟨fun hin => ?_, List.nodup_append.2 ⟨nd 0 (by omega), List.nodup_append.2 ⟨nd 1 (by omega), List.nodup_append.2 ⟨nd 2 (by omega), nd 3 (by omega), fun a ha b hb e => ds 2 3 (by omega) (by omega) (by omega) a ha (e ▸ hb)⟩, fun a ha b hb e => ?_⟩, fun a ha b hb e => ?_⟩⟩
        · rcases List.mem_append.1 hin with hp | hp
          · exact root 0 (by omega) (by omega) hp
          · rcases List.mem_append.1 hp with hp | hp
            · exact root 1 (by omega) (by omega) hp
            · rcases List.mem_append.1 hp with hp | hp
              · exact root 2 (by omega) (by omega) hp
              · exact root 3 (by omega) (by omega) hp
        · subst e
          rcases List.mem_append.1 hb with hp | hp
          · exact ds 1 2 (by omega) (by omega) (by omega) a ha hp
          · exact ds 1 3 (by omega) (by omega) (by omega) a ha hp
        · subst e
          rcases List.mem_append.1 hb with hp | hp
          · exact ds 0 1 (by omega) (by omega) (by omega) a ha hp
          · rcases List.mem_append.1 hp with hp | hp
            · exact ds 0 2 (by omega) (by omega) (by omega) a ha hp
            · exact ds 0 3 (by omega) (by omega) (by omega) a ha hp
end Go.Proofs.Ytbfjobmebkhblaa
set_option linter.unusedVariables false
set_option linter.unusedSimpArgs false
namespace Go.Proofs.Ytbfjobmebkhblaa
open Go Go.XL
abbrev Rh := List Int × List It × Bool
def readH (A : Ar) : Nat → Rh → Int → Rh
  | 0, t, _ => t
  | k + 1, t, r => if r = 0 ∨ t.2.2 = false then t else match getA A r with
    | none => (t.1, t.2.1, false)
    | some y => if placeR r ∈ t.1 then (t.1, t.2.1, false) else
      if y.kind = 3 then (t.1 ++ [placeR r], t.2.1 ++ [⟨y.n, y.v⟩], true) else
      if ¬ y.kind = 2 ∧ ¬ y.kind = 4 then (t.1 ++ [placeR r], t.2.1, false) else
      y.kids.foldl (readH A k) (t.1 ++ [placeR r], t.2.1, true)
section
variable {A : Ar} {k : Nat} {t : Rh} {r : Int} {y : Node}
theorem readH_stop (h : r = 0 ∨ t.2.2 = false) : readH A (k + 1) t r = t := by rw [readH, if_pos h]
theorem readH_none (h : ¬ (r = 0 ∨ t.2.2 = false)) (hg : getA A r = none) : readH A (k + 1) t r = (t.1, t.2.1, false) := by rw [readH, if_neg h, hg]
theorem readH_met (h : ¬ (r = 0 ∨ t.2.2 = false)) (hg : getA A r = some y) (hm : placeR r ∈ t.1) : readH A (k + 1) t r = (t.1, t.2.1, false) := by rw [readH, if_neg h, hg]; exact if_pos hm
theorem readH_leaf (h : ¬ (r = 0 ∨ t.2.2 = false)) (hg : getA A r = some y) (hm : ¬ placeR r ∈ t.1) (h3 : y.kind = 3) : readH A (k + 1) t r = (t.1 ++ [placeR r], t.2.1 ++ [⟨y.n, y.v⟩], true) := by rw [readH, if_neg h, hg]; exact (if_neg hm).trans (if_pos h3)
theorem readH_odd (h : ¬ (r = 0 ∨ t.2.2 = false)) (hg : getA A r = some y) (hm : ¬ placeR r ∈ t.1) (h3 : ¬ y.kind = 3) (h4 : ¬ y.kind = 2 ∧ ¬ y.kind = 4) : readH A (k + 1) t r = (t.1 ++ [placeR r], t.2.1, false) := by rw [readH, if_neg h, hg]; exact (if_neg hm).trans ((if_neg h3).trans (if_pos h4))
theorem readH_go (h : ¬ (r = 0 ∨ t.2.2 = false)) (hg : getA A r = some y) (hm : ¬ placeR r ∈ t.1) (h3 : ¬ y.kind = 3) (h4 : ¬ (¬ y.kind = 2 ∧ ¬ y.kind = 4)) : readH A (k + 1) t r = y.kids.foldl (readH A k) (t.1 ++ [placeR r], t.2.1, true) := by rw [readH, if_neg h, hg]; exact (if_neg hm).trans ((if_neg h3).trans (if_neg h4))
theorem readH_0 : readH A k t 0 = t := by cases k with | zero => rfl | succ k => exact readH_stop (.inl rfl)
end
/-- a table whose places were not met -/
theorem readH_fold {A : Ar} {k : Nat} : ∀ (l : List Int) (met : List Int) (L : List It), (∀ z ∈ l, ∀ met' L', met'.Nodup → (∀ p ∈ plF A k z, ¬ p ∈ met') → readH A k (met', L', true) z = (met' ++ plF A k z, L' ++ rdF A k z, true)) → (met ++ l.flatMap (plF A k)).Nodup → l.foldl (readH A k) (met, L, true) = (met ++ l.flatMap (plF A k), L ++ l.flatMap (rdF A k), true)
  | [], met, L, _, _ => by simp
  | z :: l, met, L, h, hn => by
    rw [List.flatMap_cons, ← List.append_assoc] at hn
    have h1 := List.nodup_append.1 hn
    have h2 := List.nodup_append.1 h1.1
    rw [List.foldl_cons, h z (by simp) met L h2.1 (fun p hp hm => h2.2.2 p hm p hp rfl), readH_fold l _ _ (fun t ht => h t (by simp [ht])) hn]
    simp [List.append_assoc]
theorem readH_ok {A : Ar} (f : Nat) : ∀ {k : Nat} {r : Int} {L : List It}, IsH A k r L → Ap L → ∀ (met : List Int) (row : List It), met.Nodup → (∀ p ∈ plF A (k + f + 2) r, ¬ p ∈ met) → readH A (k + f + 2) (met, row, true) r = (met ++ plF A (k + f + 2) r, row ++ rdF A (k + f + 2) r, true)
  | k, r, L, h, hap, met, row, hmn, hd => by
    by_cases hr : r = 0
    · rw [hr, readH_0, plF_no (getA_z A), rdF_no (getA_z A), List.append_nil, List.append_nil]
    · have h0 : ¬ (r = 0 ∨ ((met, row, true) : Rh).2.2 = false) := fun e => e.elim hr (fun e => by cases e)
      rcases row_cases L with rfl | ⟨x, rfl⟩ | h2
      · exact absurd (isH_nil.1 h) hr
      · have hl := isH_one.1 h
        rw [plF_leaf hl] at hd ⊢
        rw [rdF_leaf hl]
        obtain ⟨g, e⟩ := hl
        rw [show k + f + 2 = (k + f + 1) + 1 by omega, readH_leaf h0 e (hd _ (by simp)) rfl]
        rfl
      · have hnd := pl_nodup f h hap
        have main : ∀ (y : Node) (F : Nat), getA A r = some y → (y.kind = 2 ∨ y.kind = 4) → k + f + 2 = F + 1 → (∀ z ∈ y.kids, ∀ met' L', met'.Nodup → (∀ p ∈ plF A F z, ¬ p ∈ met') → readH A F (met', L', true) z = (met' ++ plF A F z, L' ++ rdF A F z, true)) → readH A (k + f + 2) (met, row, true) r = (met ++ plF A (k + f + 2) r, row ++ rdF A (k + f + 2) r, true) := fun y F hy hk hF hz => by
          rw [hF] at hd hnd ⊢
          rw [plF_node hy (by omega)] at hd hnd ⊢
          rw [rdF_node hy (by omega)]
          have hn1 := List.nodup_cons.1 hnd
          rw [readH_go h0 hy (hd _ (by simp)) (by omega) (by omega), readH_fold y.kids _ _ hz ?_]
          · simp [List.append_assoc]
          · refine List.nodup_append.2 ⟨List.nodup_append.2 ⟨hmn, by simp, fun a ha b hb e => ?_⟩, hn1.2, fun a ha b hb e => ?_⟩
            · rw [List.mem_singleton.1 hb] at e
              exact hd _ (by simp) (e ▸ ha)
            · rcases List.mem_append.1 ha with ha | ha
              · exact hd b (by simp [hb]) (e ▸ ha)
              · rw [List.mem_singleton.1 ha] at e
                exact hn1.1 (e ▸ hb)
        have zero : ∀ F met' L', readH A F (met', L', true) 0 = (met' ++ plF A F 0, L' ++ rdF A F 0, true) := fun F met' L' => by rw [readH_0, plF_no (getA_z A), rdF_no (getA_z A), List.append_nil, List.append_nil]
        cases k with
        | zero =>
          obtain ⟨y, m, q1, q2, _, q3, q4, _, q6, q7, q8⟩ := clash_node ((isH_clash h2).1 h) h2
          refine main y (f + 1) q1 (.inr q2) (by omega) (fun z hz met' L' _ hd' => ?_)
          obtain ⟨j, hj⟩ := List.getElem?_of_mem hz
          have hj9 : j < 9 := lt_of_get hj
          by_cases hjm : j < m.length
          · obtain ⟨x, hx⟩ := getSome (l := m) hjm
            have h6 := q7 j x hx
            rw [kid_get hj] at h6
            rw [plF_leaf h6] at hd' ⊢
            rw [rdF_leaf h6]
            have hz0 := h6.nz
            obtain ⟨g, e⟩ := h6
            rw [readH_leaf (fun e => e.elim hz0 (fun e => by cases e)) e (hd' _ (by simp)) rfl]
            rfl
          · have h6 := q8 j (by omega) hj9
            rw [kid_get hj] at h6
            rw [h6]; exact zero _ _ _
        | succ k =>
          obtain ⟨y, q1, q2, _, q4, q5⟩ := trie_zero h h2
          refine main y (k + f + 2) q1 (.inl q2) (by omega) (fun z hz met' L' hmn' hd' => ?_)
          obtain ⟨j, hj⟩ := List.getElem?_of_mem hz
          have hj9 : j < 9 := lt_of_get hj
          by_cases hj4 : j < 4
          · have h6 := q4 j hj4
            rw [kid_get hj] at h6
            exact readH_ok f h6 (hap.of _ _) met' L' hmn' hd'
          · have h6 := q5 j (by omega) hj9
            rw [kid_get hj] at h6
            rw [h6]; exact zero _ _ _
end Go.Proofs.Ytbfjobmebkhblaa
set_option linter.unusedVariables false
set_option linter.unusedSimpArgs false
namespace Go.Proofs.Ytbfjobmebkhblaa
open Go Go.XL
theorem take_hasH {l : List Int} {i : Nat} {x p : Int} (hx : l[i]? = some x) (h : ¬ p ∈ l.take i) (hp : ¬ x = p) : ¬ p ∈ l.take (i + 1) := by
  rw [List.take_add_one, hx]
  intro hin
  rcases List.mem_append.1 hin with h' | h'
  · exact h h'
  · have : p = x := by simpa using h'
    exact hp this.symm
theorem c_hasH (l : List Int) (a : Option Addr) (c m : Nat) (hm : m = l.length) (p : Int) (w : World) (hl : Sl w a 1 (l.map fun x => [i6 x])) (hb : l.length ≤ 1000000) :
    FC Try.prog 76 [.slice a m c, .int .i64 p] w (Val (.bool (decide (p ∈ l))) w) := by
  subst hm
  refine FC.intro Try.func76 rfl Try.ntmps76 rfl ?_
  have S := Sub.refl w
  refine RC.seq ?_
  refine RC.region rfl ?_
  refine RL.ev (.assign rfl) rfl rfl ?_
  refine RL.nil (RC.back ?_)
  refine RC.seq ?_
  refine RC.seq ?_
  refine RC.region rfl ?_
  refine RL.ev (.move rfl) rfl rfl ?_
  refine RL.ev (.len sl32 rfl) rfl rfl ?_
  refine RL.ev (.move rfl) rfl rfl ?_
  refine RL.nil (RC.back ?_)
  refine RC.block ?_
  refine RC.loop (α := Nat) (fun i => [(1, .int .i64 p), (7, .slice a l.length c), (8, .int .i64 (l.length : Int)), (9, .int .i64 (i : Int))]) (fun i w1 => i ≤ l.length ∧ (¬ p ∈ l.take i) ∧ Sub w w1) (fun i => l.length - i) 0 (keep_of (by repeat (first | exact trivial | refine And.intro rfl ?_))) (⟨Nat.zero_le _, by simp, S⟩) (fun i w1 hJ => ?_)
  obtain ⟨hi, hp, S⟩ := hJ
  refine RC.seq ?_
  refine RC.region rfl ?_
  refine RL.ev (.bin rfl rfl rfl) rfl rfl ?_
  refine RL.nil (RC.back ?_)
  refine RC.seq ?_
  refine RC.cond_dec rfl (fun h2 => ?_) (fun h2 => ?_)
  ·
    obtain ⟨x, hx⟩ := getSome (l := l) (i := i) (by omega)
    refine RC.skip (RC.back ?_)
    refine RC.seq ?_
    refine RC.block ?_
    refine RC.seq ?_
    refine RC.region rfl ?_
    refine RL.ev (.indexS sl32 rfl rfl (by omega) (hl.is (i := 0) (by simp only [List.length_map, List.length_cons, List.length_nil]; omega))) rfl rfl ?_
    refine RL.ev (.load1 sh3 rfl ((hl.sub S).one (enc := i6) (i := i) hx)) rfl rfl ?_
    refine RL.ev (.assign rfl) rfl rfl ?_
    refine RL.nil (RC.back ?_)
    refine RC.seq ?_
    refine RC.region rfl ?_
    refine RL.ev (.move rfl) rfl rfl ?_
    refine RL.ev (.move rfl) rfl rfl ?_
    refine RL.ev (.bin rfl rfl rfl) rfl rfl ?_
    refine RL.nil (RC.back ?_)
    refine RC.cond_dec rfl (fun h3 => ?_) (fun h3 => ?_)
    ·
      have hxp : x = p := h3
      refine RC.seq ?_
      refine RC.region rfl ?_
      refine RL.ev (.assign rfl) rfl rfl ?_
      refine RL.nil (RC.back ?_)
      refine RC.done (rs := [.tmp 4]) (vs := [_]) rfl rfl ⟨rfl, trivial⟩ ?_
      -- end 1
      exact ⟨congrArg Value.bool (decide_eq_true (hxp ▸ List.mem_of_getElem? hx)).symm, S⟩
    ·
      have hxp : ¬ x = p := h3
      refine RC.skip (RC.back ?_)
      refine RC.region rfl ?_
      refine RL.ev (.as (.bin rfl rfl rfl) (wi64 (y := ((i + 1 : Nat) : Int)) (by omega) (by omega))) rfl rfl ?_
      refine RL.ev (.move rfl) rfl rfl ?_
      exact RL.nil (fun a ka => ⟨i + 1, ⟨by omega, take_hasH hx hp hxp, S⟩, by omega, ka.keep (keep_of (by repeat (first | exact trivial | refine And.intro rfl ?_)))⟩)
  ·
    obtain rfl : i = l.length := (by omega)
    rw [List.take_length] at hp
    refine RC.exit rfl (RC.back ?_)
    refine RC.seq ?_
    refine RC.region rfl ?_
    refine RL.ev (.assign rfl) rfl rfl ?_
    refine RL.nil (RC.back ?_)
    refine RC.done (rs := [.tmp 4]) (vs := [_]) rfl rfl ⟨rfl, trivial⟩ ?_
    -- end 2
    exact ⟨congrArg Value.bool (decide_eq_false hp).symm, S⟩
/-- what is kept while a table is read -/
structure RhOk (N : Nat) (t : Rh) : Prop where
  nd : t.1.Nodup
  rng : ∀ p ∈ t.1, 0 ≤ p ∧ p < N
  row : t.2.1.length ≤ t.1.length
theorem RhOk.len {N : Nat} {t : Rh} (h : RhOk N t) : t.1.length ≤ N := pigeon N t.1 h.nd h.rng
theorem RhOk.off {N : Nat} {t : Rh} (h : RhOk N t) : RhOk N (t.1, t.2.1, false) := ⟨h.nd, h.rng, h.row⟩
theorem RhOk.add {N : Nat} {t : Rh} (h : RhOk N t) {p : Int} (hp : 0 ≤ p ∧ p < N) (hn : ¬ p ∈ t.1) (b : Bool) : RhOk N (t.1 ++ [p], t.2.1, b) := by
  refine ⟨List.nodup_append.2 ⟨h.nd, by simp, fun a ha c hc e => ?_⟩, fun q hq => ?_, ?_⟩
  · rw [List.mem_singleton.1 hc] at e; exact hn (e ▸ ha)
  · rcases List.mem_append.1 hq with hq | hq
    · exact h.rng q hq
    · rw [List.mem_singleton.1 hq]; exact hp
  · have := h.row; rw [List.length_append]; simp only [List.length_singleton]; omega
theorem readH_inv {A : Ar} : ∀ (k : Nat) (t : Rh) (r : Int), RhOk A.nodes.length t → RhOk A.nodes.length (readH A k t r) ∧ t.1.length ≤ (readH A k t r).1.length
  | 0, t, r, h => ⟨h, Nat.le_refl _⟩
  | k + 1, t, r, h => by
    by_cases h0 : r = 0 ∨ t.2.2 = false
    · rw [readH_stop h0]; exact ⟨h, Nat.le_refl _⟩
    · cases hg : getA A r with
      | none => rw [readH_none h0 hg]; exact ⟨h.off, Nat.le_refl _⟩
      | some y =>
        by_cases hm : placeR r ∈ t.1
        · rw [readH_met h0 hg hm]; exact ⟨h.off, Nat.le_refl _⟩
        · have hr := getA_rng hg
          by_cases h3 : y.kind = 3
          · rw [readH_leaf h0 hg hm h3]
            have ha := h.add hr hm true
            refine ⟨⟨ha.nd, ha.rng, ?_⟩, by simp⟩
            have := h.row
            simp only [List.length_append, List.length_singleton]; omega
          · by_cases h4 : ¬ y.kind = 2 ∧ ¬ y.kind = 4
            · rw [readH_odd h0 hg hm h3 h4]; exact ⟨h.add hr hm false, by simp⟩
            · rw [readH_go h0 hg hm h3 h4]
              have fold : ∀ (l : List Int) (u : Rh), RhOk A.nodes.length u → RhOk A.nodes.length (l.foldl (readH A k) u) ∧ u.1.length ≤ (l.foldl (readH A k) u).1.length := by
                intro l
                induction l with
                | nil => intro u hu; exact ⟨hu, Nat.le_refl _⟩
                | cons z l ih =>
                  intro u hu
                  have h1 := readH_inv k u z hu
                  have h2 := ih _ h1.1
                  rw [List.foldl_cons]
                  exact ⟨h2.1, Nat.le_trans h1.2 h2.2⟩
              have hf := fold y.kids _ (h.add hr hm true)
              refine ⟨hf.1, Nat.le_trans ?_ hf.2⟩
              simp
def sC (t : Rh) (ma : Option Addr) (mc : Nat) (va : Option Addr) (vc : Nat) : List Value := [.slice ma (t.1.map fun x => [i6 x]).length mc, .slice va (t.2.1.map It.cells).length vc, .bool t.2.2]
/-- how the reference's rows stand; what else is kept -/
structure RhS (w0 : World) (E : Nat) (K : Nat → Prop) (I : World → Prop) (t : Rh) (ma : Option Addr) (mc : Nat) (va : Option Addr) (vc : Nat) (w : World) : Prop where
  S : Sub w0 w
  sz : E ≤ w.heap.size
  om : Ows E w 3 1 (.slice ma (t.1.map fun x => [i6 x]).length mc) (t.1.map fun x => [i6 x])
  ov : Ows E w 29 2 (.slice va (t.2.1.map It.cells).length vc) (t.2.1.map It.cells)
  d : ∀ k, ob (.slice ma (t.1.map fun x => [i6 x]).length mc) = some k → ob (.slice va (t.2.1.map It.cells).length vc) = some k → False
  hI : Ft K I w
  dm : ∀ k, ob (.slice ma (t.1.map fun x => [i6 x]).length mc) = some k → K k → False
  dv : ∀ k, ob (.slice va (t.2.1.map It.cells).length vc) = some k → K k → False
theorem rhFold {A : Ar} {k : Nat} {l : List Int} {j : Nat} {z : Int} {t0 t1 t3 : Rh} (hz : l[j]? = some z) (h1 : (l.take j).foldl (readH A k) t0 = t1) (h3 : readH A k t1 z = t3) : (l.take (j + 1)).foldl (readH A k) t0 = t3 := by
  rw [List.take_add_one, hz, List.foldl_append, h1]; exact h3
theorem rhAll {A : Ar} {k : Nat} {y : Node} {t0 : Rh} : (y.kids.take 9).foldl (readH A k) t0 = y.kids.foldl (readH A k) t0 := by
  rw [List.take_of_length_le (Nat.le_refl 9 : y.kids.length ≤ 9)]
abbrev RhI (K : Nat → Prop) (I : World → Prop) (A : Ar) (na fa : Option Addr) (nc fc : Nat) (b3 b4 b6 : Nat) (t : Rh) (ma : Option Addr) (mc : Nat) (va : Option Addr) (vc : Nat) : World → Prop :=
  fun u => Ft K I u ∧ Has u b3 [.slice na A.nodes.length nc, .slice fa A.free.length fc] 34 ∧ Has u b4 (sC t ma mc va vc) 90 ∧ Has u b6 [.slice none 0 0, .slice none 0 0, .bool false] 90
/-- the rounds over the kids -/
structure RhL (w0 : World) (E : Nat) (K : Nat → Prop) (I : World → Prop) (A : Ar) (k : Nat) (l : List Int) (t0 : Rh) (b3 b4 b6 : Nat) (na fa : Option Addr) (nc fc : Nat) (j : Nat) (ma : Option Addr) (mc : Nat) (va : Option Addr) (vc : Nat) (w : World) : Prop where
  is : ∃ t, (l.take j).foldl (readH A k) t0 = t ∧ RhOk A.nodes.length t ∧ t0.1.length ≤ t.1.length ∧ RhS w0 E (fun k => K k ∨ k = b3 ∨ k = b4 ∨ k = b6) (RhI K I A na fa nc fc b3 b4 b6 t ma mc va vc) t ma mc va vc w
set_option maxHeartbeats 4000000 in
theorem c_ReadH (A : Ar) (na fa : Option Addr) (nc fc : Nat) (hn : A.nodes.length ≤ 1000000) (w0 : World) (hA : ArR w0 na fa A) (E : Nat) (gE : w0.heap.size ≤ E) : ∀ (k : Nat) (met : List Int) (v : List It) (ok : Bool) (ma : Option Addr) (mc : Nat) (va : Option Addr) (vc : Nat) (r : Int) (K : Nat → Prop) (I : World → Prop) (w : World), U64 r → A.nodes.length + 1 ≤ met.length + k → RhOk A.nodes.length (met, v, ok) → RhS w0 E K I (met, v, ok) ma mc va vc w →
    FC Try.prog 52 [arV na fa nc fc A, .agg (sC (met, v, ok) ma mc va vc).toArray, .int .u64 r] w (fun u w' => ∃ ma' mc' va' vc', u = .agg (sC (readH A k (met, v, ok) r) ma' mc' va' vc').toArray ∧ RhS w0 E K I (readH A k (met, v, ok) r) ma' mc' va' vc' w') := by
  intro k
  induction k with
  | zero => intro met v ok ma mc va vc r K I w _ h1 h2; have := h2.len; simp only [] at this; omega
  | succ k ih =>
  intro met v ok ma mc va vc r K I w hr hk hok hs
  obtain ⟨S, szB, om, ov, dmv, hI, dm, dv⟩ := hs
  simp only [] at om ov dmv dm dv
  have hf := atA_form A r
  have hNd := hA.nodes
  have hFr := hA.free
  have hml := hok.len
  have hvl := hok.row
  simp only [] at hml hvl
  refine FC.intro Try.func52 rfl Try.ntmps52 rfl ?_
  refine RC.seq ?_
  refine RC.region rfl ?_
  refine RL.box rfl rfl rfl (fun b_3 w_3 e_3 z_3 hb_3 s_3 => ?_)
  have ge_3 := S.le e_3
  have d_om_b_3 := om.neNew e_3
  have d_ov_b_3 := ov.neNew e_3
  have d_hI_b_3 := hI.neNew e_3
  have S := S.trans s_3
  have om := om.sub s_3
  have ov := ov.sub s_3
  have hI := hI.sub s_3
  have szB := Nat.le_trans szB s_3.size
  have hb_3 : Has w_3 b_3 ([.slice na A.nodes.length nc, .slice fa A.free.length fc]) _ := hb_3
  refine RL.box rfl rfl rfl (fun b_4 w_4 e_4 z_4 hb_4 s_4 => ?_)
  have ge_4 := S.le e_4
  have n_3__4 := hb_3.ne e_4
  have d_om_b_4 := om.neNew e_4
  have d_ov_b_4 := ov.neNew e_4
  have d_hI_b_4 := hI.neNew e_4
  have S := S.trans s_4
  have om := om.sub s_4
  have ov := ov.sub s_4
  have hI := hI.sub s_4
  have szB := Nat.le_trans szB s_4.size
  have hb_3 := hb_3.sub s_4
  have hb_4 : Has w_4 b_4 (sC (met, v, ok) ma mc va vc) _ := hb_4
  refine RL.alloc ze90 rfl rfl (fun b_6 w_6 e_6 z_6 hb_6 s_6 => ?_)
  have ge_6 := S.le e_6
  have n_3__6 := hb_3.ne e_6
  have n_4__6 := hb_4.ne e_6
  have d_om_b_6 := om.neNew e_6
  have d_ov_b_6 := ov.neNew e_6
  have d_hI_b_6 := hI.neNew e_6
  have S := S.trans s_6
  have om := om.sub s_6
  have ov := ov.sub s_6
  have hI := hI.sub s_6
  have szB := Nat.le_trans szB s_6.size
  have hb_3 := hb_3.sub s_6
  have hb_4 := hb_4.sub s_6
  refine RL.nil (RC.back ?_)
  refine RC.seq ?_
  refine RC.seq ?_
  refine RC.region rfl ?_
  refine RL.ev (.move rfl) rfl rfl ?_
  refine RL.ev (.bin rfl rfl rfl) rfl rfl ?_
  refine RL.ev (.move rfl) rfl rfl ?_
  refine RL.split 13 rfl (fun h1 => ?_) (fun h1 => ?_)
  ·
    have hres : readH A (k + 1) (met, v, ok) r = (met, v, ok) := readH_stop (.inl h1)
    refine RL.off rfl rfl ?_
    refine RL.off rfl rfl ?_
    refine RL.off rfl rfl ?_
    refine RL.ev (.pick_t rfl rfl) rfl rfl ?_
    refine RL.nil (RC.back ?_)
    refine RC.cond_t rfl ?_
    refine RC.seq ?_
    refine RC.region rfl ?_
    refine RL.ev (.loadR (sC (met, v, ok) ma mc va vc) sh90 rfl hb_4.row rfl) rfl rfl ?_
    refine RL.store sh90 rfl rfl rfl hb_6 (by exact Nat.le_of_ble_eq_true rfl) (by rfl) rfl (fun w2 z2 hb_6 a2 => ?_)
    have S := S.upd a2 ge_6
    have om := om.updD a2 d_om_b_6
    have ov := ov.updD a2 d_ov_b_6
    have hI := hI.updD a2 d_hI_b_6
    have szB := Nat.le_trans szB a2.size
    have hb_3 := hb_3.upd a2 n_3__6
    have hb_4 := hb_4.upd a2 n_4__6
    have hb_6 : Has w2 b_6 (sC (met, v, ok) ma mc va vc) _ := hb_6.now (by kernel_rfl)
    refine RL.nil (RC.back ?_)
    refine RC.done (rs := [.cell 6 90]) (vs := [_]) rfl rfl ⟨⟨_, rfl, .inr ⟨sC (met, v, ok) ma mc va vc, sh90, hb_6.row, rfl⟩⟩, trivial⟩ ?_
    -- end 1
    rw [hres]
    exact ⟨ma, mc, va, vc, rfl, ⟨S, szB, om, ov, dmv, hI, dm, dv⟩⟩
  ·
    have hr0 := h1
    refine RL.ev (.field0 fo90_2 rfl) rfl rfl ?_
    refine RL.ev (.load1 sh4 rfl (hb_4.cell rfl)) rfl rfl ?_
    refine RL.ev (.not rfl) rfl rfl ?_
    refine RL.ev (.pick_f rfl rfl) rfl rfl ?_
    refine RL.nil (RC.back ?_)
    refine RC.cond rfl (fun h3 => ?_) (fun h3 => ?_)
    ·
      have hres : readH A (k + 1) (met, v, ok) r = (met, v, ok) := readH_stop (.inr (by simpa using h3))
      refine RC.seq ?_
      refine RC.region rfl ?_
      refine RL.ev (.loadR (sC (met, v, ok) ma mc va vc) sh90 rfl hb_4.row rfl) rfl rfl ?_
      refine RL.store sh90 rfl rfl rfl hb_6 (by exact Nat.le_of_ble_eq_true rfl) (by rfl) rfl (fun w4 z4 hb_6 a4 => ?_)
      have S := S.upd a4 ge_6
      have om := om.updD a4 d_om_b_6
      have ov := ov.updD a4 d_ov_b_6
      have hI := hI.updD a4 d_hI_b_6
      have szB := Nat.le_trans szB a4.size
      have hb_3 := hb_3.upd a4 n_3__6
      have hb_4 := hb_4.upd a4 n_4__6
      have hb_6 : Has w4 b_6 (sC (met, v, ok) ma mc va vc) _ := hb_6.now (by kernel_rfl)
      refine RL.nil (RC.back ?_)
      refine RC.done (rs := [.cell 6 90]) (vs := [_]) rfl rfl ⟨⟨_, rfl, .inr ⟨sC (met, v, ok) ma mc va vc, sh90, hb_6.row, rfl⟩⟩, trivial⟩ ?_
      -- end 2
      rw [hres]
      exact ⟨ma, mc, va, vc, rfl, ⟨S, szB, om, ov, dmv, hI, dm, dv⟩⟩
    ·
      obtain rfl : ok = true := (by simpa using h3)
      have h0 : ¬ (r = 0 ∨ ((met, v, true) : Rh).2.2 = false) := (fun e => e.elim hr0 (fun e => by cases e))
      refine RC.skip (RC.back ?_)
      refine RC.seq ?_
      refine RC.region rfl ?_
      refine RL.ev (.loadR ([.slice na A.nodes.length nc, .slice fa A.free.length fc]) sh34 rfl hb_3.row rfl) rfl rfl ?_
      refine RL.ev (.move rfl) rfl rfl ?_
      refine RL.call rfl ok61 (c_r4At A na fa nc fc r hr w_6 (hA.sub S) (by omega)) rfl rfl ?_
      rintro _ w5 ⟨rfl, s6⟩
      have S := S.trans s6
      have om := om.sub s6
      have ov := ov.sub s6
      have hI := hI.sub s6
      have szB := Nat.le_trans szB s6.size
      have hb_3 := hb_3.sub s6
      have hb_4 := hb_4.sub s6
      have hb_6 := hb_6.sub s6
      refine RL.ev (.assign rfl) rfl rfl ?_
      refine RL.nil (RC.back ?_)
      refine RC.seq ?_
      refine RC.seq ?_
      refine RC.region rfl ?_
      refine RL.ev (.move rfl) rfl rfl ?_
      refine RL.ev (.bin rfl rfl rfl) rfl rfl ?_
      refine RL.ev (.move rfl) rfl rfl ?_
      refine RL.split 24 rfl (fun h7 => ?_) (fun h7 => ?_)
      ·
        have hres : readH A (k + 1) (met, v, true) r = (met, v, false) := readH_none h0 (hf.1 h7)
        refine RL.off rfl rfl ?_
        refine RL.off rfl rfl ?_
        refine RL.off rfl rfl ?_
        refine RL.off rfl rfl ?_
        refine RL.ev (.pick_t rfl rfl) rfl rfl ?_
        refine RL.nil (RC.back ?_)
        refine RC.cond_t rfl ?_
        refine RC.seq ?_
        refine RC.region rfl ?_
        refine RL.ev (.field0 fo90_2 rfl) rfl rfl ?_
        refine RL.store sh4 rfl rfl rfl hb_4 (by exact Nat.le_of_ble_eq_true rfl) (by rfl) rfl (fun w8 z8 hb_4 a8 => ?_)
        have S := S.upd a8 ge_4
        have om := om.updD a8 d_om_b_4
        have ov := ov.updD a8 d_ov_b_4
        have hI := hI.updD a8 d_hI_b_4
        have szB := Nat.le_trans szB a8.size
        have hb_3 := hb_3.upd a8 n_3__4
        have hb_6 := hb_6.upd a8 n_4__6.symm
        have hb_4 : Has w8 b_4 (sC (met, v, false) ma mc va vc) _ := hb_4
        refine RL.nil (RC.back ?_)
        refine RC.seq ?_
        refine RC.region rfl ?_
        refine RL.ev (.loadR (sC (met, v, false) ma mc va vc) sh90 rfl hb_4.row rfl) rfl rfl ?_
        refine RL.store sh90 rfl rfl rfl hb_6 (by exact Nat.le_of_ble_eq_true rfl) (by rfl) rfl (fun w9 z9 hb_6 a9 => ?_)
        have S := S.upd a9 ge_6
        have om := om.updD a9 d_om_b_6
        have ov := ov.updD a9 d_ov_b_6
        have hI := hI.updD a9 d_hI_b_6
        have szB := Nat.le_trans szB a9.size
        have hb_3 := hb_3.upd a9 n_3__6
        have hb_4 := hb_4.upd a9 n_4__6
        have hb_6 : Has w9 b_6 (sC (met, v, false) ma mc va vc) _ := hb_6.now (by kernel_rfl)
        refine RL.nil (RC.back ?_)
        refine RC.done (rs := [.cell 6 90]) (vs := [_]) rfl rfl ⟨⟨_, rfl, .inr ⟨sC (met, v, false) ma mc va vc, sh90, hb_6.row, rfl⟩⟩, trivial⟩ ?_
        -- end 3
        rw [hres]
        exact ⟨ma, mc, va, vc, rfl, ⟨S, szB, om, ov, dmv, hI, dm, dv⟩⟩
      ·
        obtain ⟨y, hy, hay⟩ := hf.2 h7
        have hrg := getA_rng hy
        refine RL.ev (.field0 fo90_0 rfl) rfl rfl ?_
        refine RL.ev (.load1 sh32 rfl (hb_4.cell rfl)) rfl rfl ?_
        refine RL.ev (.move rfl) rfl rfl ?_
        refine RL.call rfl ok76 (c_hasH met ma mc _ (List.length_map _) (atA A r) w5 om.sl.1 (by omega)) rfl rfl ?_
        rintro _ w10 ⟨rfl, s11⟩
        have S := S.trans s11
        have om := om.sub s11
        have ov := ov.sub s11
        have hI := hI.sub s11
        have szB := Nat.le_trans szB s11.size
        have hb_3 := hb_3.sub s11
        have hb_4 := hb_4.sub s11
        have hb_6 := hb_6.sub s11
        refine RL.ev (.pick_f rfl rfl) rfl rfl ?_
        refine RL.nil (RC.back ?_)
        refine RC.cond_dec rfl (fun h12 => ?_) (fun h12 => ?_)
        ·
          have hres : readH A (k + 1) (met, v, true) r = (met, v, false) := readH_met h0 hy (hay ▸ h12)
          refine RC.seq ?_
          refine RC.region rfl ?_
          refine RL.ev (.field0 fo90_2 rfl) rfl rfl ?_
          refine RL.store sh4 rfl rfl rfl hb_4 (by exact Nat.le_of_ble_eq_true rfl) (by rfl) rfl (fun w13 z13 hb_4 a13 => ?_)
          have S := S.upd a13 ge_4
          have om := om.updD a13 d_om_b_4
          have ov := ov.updD a13 d_ov_b_4
          have hI := hI.updD a13 d_hI_b_4
          have szB := Nat.le_trans szB a13.size
          have hb_3 := hb_3.upd a13 n_3__4
          have hb_6 := hb_6.upd a13 n_4__6.symm
          have hb_4 : Has w13 b_4 (sC (met, v, false) ma mc va vc) _ := hb_4
          refine RL.nil (RC.back ?_)
          refine RC.seq ?_
          refine RC.region rfl ?_
          refine RL.ev (.loadR (sC (met, v, false) ma mc va vc) sh90 rfl hb_4.row rfl) rfl rfl ?_
          refine RL.store sh90 rfl rfl rfl hb_6 (by exact Nat.le_of_ble_eq_true rfl) (by rfl) rfl (fun w14 z14 hb_6 a14 => ?_)
          have S := S.upd a14 ge_6
          have om := om.updD a14 d_om_b_6
          have ov := ov.updD a14 d_ov_b_6
          have hI := hI.updD a14 d_hI_b_6
          have szB := Nat.le_trans szB a14.size
          have hb_3 := hb_3.upd a14 n_3__6
          have hb_4 := hb_4.upd a14 n_4__6
          have hb_6 : Has w14 b_6 (sC (met, v, false) ma mc va vc) _ := hb_6.now (by kernel_rfl)
          refine RL.nil (RC.back ?_)
          refine RC.done (rs := [.cell 6 90]) (vs := [_]) rfl rfl ⟨⟨_, rfl, .inr ⟨sC (met, v, false) ma mc va vc, sh90, hb_6.row, rfl⟩⟩, trivial⟩ ?_
          -- end 4
          rw [hres]
          exact ⟨ma, mc, va, vc, rfl, ⟨S, szB, om, ov, dmv, hI, dm, dv⟩⟩
        ·
          have hnm : ¬ placeR r ∈ met := hay ▸ h12
          have hyo := hA.nok y (getA_nok hy)
          refine RC.skip (RC.back ?_)
          refine RC.seq ?_
          refine RC.region rfl ?_
          refine RL.ev (.field0 fo90_0 rfl) rfl rfl ?_
          refine RL.ev (.load1 sh32 rfl (hb_4.cell rfl)) rfl rfl ?_
          refine RL.ev (.as (v' := .int .i64 (placeR r)) (.move rfl) (by rw [hay])) rfl rfl ?_
          refine RL.buildSlice1 sl32 _ ze3 rfl rfl rfl rfl rfl rfl rfl (fun b_35 w_35 e_35 z_35 hb_35 s_35 => ?_)
          have ge_35 := S.le e_35
          have n_3__35 := hb_3.ne e_35
          have n_4__35 := hb_4.ne e_35
          have n_6__35 := hb_6.ne e_35
          have d_om_b_35 := om.neNew e_35
          have d_ov_b_35 := ov.neNew e_35
          have d_hI_b_35 := hI.neNew e_35
          have S := S.trans s_35
          have om := om.sub s_35
          have ov := ov.sub s_35
          have hI := hI.sub s_35
          have szB := Nat.le_trans szB s_35.size
          have hb_3 := hb_3.sub s_35
          have hb_4 := hb_4.sub s_35
          have hb_6 := hb_6.sub s_35
          have sz_36 := S.size
          have ltb_3_36 := hb_3.lt
          have ltb_4_36 := hb_4.lt
          have ltb_6_36 := hb_6.lt
          have ltb_35_36 := hb_35.lt
          refine RL.append2 (base := E) (rows := met.map fun x => [i6 x]) (news := [_]) sl32 ze3 rfl rfl rfl rfl (.inl om) (Has.slOne hb_35) rfl (by intro r hr; rw [List.mem_singleton] at hr; subst hr; rfl) rfl (by (try simp only [List.length_map, List.length_nil, List.length_append, List.length_cons]); omega) (by (try simp only [List.length_map, List.length_nil, List.length_append, List.length_cons]); omega) (by omega) rfl rfl (fun v_36 w_36 hc_36 ho_36 ag_36 ob_36 => ?_)
          have om36 := ho_36 (.inl (by simp))
          rw [show _ ++ [_] = ((met ++ [placeR r]).map fun x => [i6 x]) from by rw [List.map_append]; rfl] at om36
          have dd_om36_ov := obDD ob_36 dmv (fun k hk => (ov.ge k hk).2)
          have dd_om36_hI := obDF ob_36 dm (fun k hk => (hI.ge k hk).2)
          have d_om36_b_3 := obNe ob_36 d_om_b_3 hb_3.lt
          have d_om36_b_4 := obNe ob_36 d_om_b_4 hb_4.lt
          have d_om36_b_6 := obNe ob_36 d_om_b_6 hb_6.lt
          have S := S.agrN ag_36 (fun k e => Nat.le_trans (by omega) e.2)
          have ov := ov.step ag_36 (fun k hk e => dmv k e.1 hk)
          have hI := hI.step ag_36 (fun k hk e => dm k e.1 hk)
          have szB := Nat.le_trans szB ag_36.size
          have hb_3 := hb_3.step ag_36 (fun e => d_om_b_3 _ e.1 rfl)
          have hb_4 := hb_4.step ag_36 (fun e => d_om_b_4 _ e.1 rfl)
          have hb_6 := hb_6.step ag_36 (fun e => d_om_b_6 _ e.1 rfl)
          obtain ⟨a_36, c_36, rfl, k_36⟩ := om36.form
          refine RL.ev (.field0 fo90_0 rfl) rfl rfl ?_
          refine RL.store sh32 rfl rfl rfl hb_4 (by exact Nat.le_of_ble_eq_true rfl) (by rfl) rfl (fun w15 z15 hb_4 a15 => ?_)
          have S := S.upd a15 ge_4
          have ov := ov.updD a15 d_ov_b_4
          have hI := hI.updD a15 d_hI_b_4
          have szB := Nat.le_trans szB a15.size
          have hb_3 := hb_3.upd a15 n_3__4
          have hb_6 := hb_6.upd a15 n_4__6.symm
          have om36 := om36.updD a15 d_om36_b_4
          have hb_4 : Has w15 b_4 (sC (met ++ [placeR r], v, true) a_36 c_36 va vc) _ := hb_4
          refine RL.nil (RC.back ?_)
          refine RC.seq ?_
          refine RC.region rfl ?_
          refine RL.ev (.field0 fo34_0 rfl) rfl rfl ?_
          refine RL.ev (.load1 sh31 rfl (hb_3.cell rfl)) rfl rfl ?_
          refine RL.ev (.as (v' := .int .i64 (placeR r)) (.move rfl) (by rw [hay])) rfl rfl ?_
          refine RL.ev (.indexS sl31 rfl rfl (by omega) (hNd.is (i := 0) (by simp only [List.length_map, List.length_cons, List.length_nil]; omega))) rfl rfl ?_
          refine RL.ev (.loadR (y.cells) sh97 rfl ((hNd.sub S).rowAt (enc := Node.cells) (getA_get hy).1) rfl) rfl rfl ?_
          refine RL.alloc ze97 rfl rfl (fun b_8 w_8 e_8 z_8 hb_8 s_8 => ?_)
          have ge_8 := S.le e_8
          have n_3__8 := hb_3.ne e_8
          have n_4__8 := hb_4.ne e_8
          have n_6__8 := hb_6.ne e_8
          have d_ov_b_8 := ov.neNew e_8
          have d_hI_b_8 := hI.neNew e_8
          have d_om36_b_8 := om36.neNew e_8
          have S := S.trans s_8
          have ov := ov.sub s_8
          have hI := hI.sub s_8
          have szB := Nat.le_trans szB s_8.size
          have hb_3 := hb_3.sub s_8
          have hb_4 := hb_4.sub s_8
          have hb_6 := hb_6.sub s_8
          have om36 := om36.sub s_8
          refine RL.store sh97 rfl rfl rfl hb_8 (by exact Nat.le_of_ble_eq_true rfl) (by rfl) rfl (fun w16 z16 hb_8 a16 => ?_)
          have S := S.upd a16 ge_8
          have ov := ov.updD a16 d_ov_b_8
          have hI := hI.updD a16 d_hI_b_8
          have szB := Nat.le_trans szB a16.size
          have hb_3 := hb_3.upd a16 n_3__8
          have hb_4 := hb_4.upd a16 n_4__8
          have hb_6 := hb_6.upd a16 n_6__8
          have om36 := om36.updD a16 d_om36_b_8
          have hb_8 : Has w16 b_8 (y.cells) _ := hb_8.now (by kernel_rfl)
          refine RL.nil (RC.back ?_)
          refine RC.seq ?_
          refine RC.seq ?_
          refine RC.region rfl ?_
          refine RL.ev (.field0 fo97_0 rfl) rfl rfl ?_
          refine RL.ev (.load1 sh3 rfl (hb_8.cell rfl)) rfl rfl ?_
          refine RL.ev (.bin rfl rfl rfl) rfl rfl ?_
          refine RL.nil (RC.back ?_)
          refine RC.cond_dec rfl (fun h17 => ?_) (fun h17 => ?_)
          ·
            have h3 : y.kind = 3 := h17
            have hres := readH_leaf (k := k) h0 hy hnm h3
            refine RC.seq ?_
            refine RC.region rfl ?_
            refine RL.ev (.field0 fo90_1 rfl) rfl rfl ?_
            refine RL.ev (.load1 sh26 rfl (hb_4.cell rfl)) rfl rfl ?_
            refine RL.ev (.field0 fo97_2 rfl) rfl rfl ?_
            refine RL.ev (.load1 sh2 rfl (hb_8.cell rfl)) rfl rfl ?_
            refine RL.ev (.field0 fo97_3 rfl) rfl rfl ?_
            refine RL.ev (.load1 sh2 rfl (hb_8.cell rfl)) rfl rfl ?_
            refine RL.ev (.buildS ze29 pl29 rfl rfl) rfl rfl ?_
            refine RL.buildSlice1 sl26 _ ze29 rfl rfl rfl rfl rfl rfl rfl (fun b_53 w_53 e_53 z_53 hb_53 s_53 => ?_)
            have ge_53 := S.le e_53
            have n_3__53 := hb_3.ne e_53
            have n_4__53 := hb_4.ne e_53
            have n_6__53 := hb_6.ne e_53
            have n_8__53 := hb_8.ne e_53
            have d_ov_b_53 := ov.neNew e_53
            have d_hI_b_53 := hI.neNew e_53
            have d_om36_b_53 := om36.neNew e_53
            have S := S.trans s_53
            have ov := ov.sub s_53
            have hI := hI.sub s_53
            have szB := Nat.le_trans szB s_53.size
            have hb_3 := hb_3.sub s_53
            have hb_4 := hb_4.sub s_53
            have hb_6 := hb_6.sub s_53
            have om36 := om36.sub s_53
            have hb_8 := hb_8.sub s_53
            have sz_54 := S.size
            have ltb_3_54 := hb_3.lt
            have ltb_4_54 := hb_4.lt
            have ltb_6_54 := hb_6.lt
            have ltb_8_54 := hb_8.lt
            have ltb_53_54 := hb_53.lt
            refine RL.append2 (base := E) (rows := v.map It.cells) (news := [_]) sl26 ze29 rfl rfl rfl rfl (.inl ov) (Has.slOne hb_53) rfl (by intro r hr; rw [List.mem_singleton] at hr; subst hr; rfl) rfl (by (try simp only [List.length_map, List.length_nil, List.length_append, List.length_cons]); omega) (by (try simp only [List.length_map, List.length_nil, List.length_append, List.length_cons]); omega) (by omega) rfl rfl (fun v_54 w_54 hc_54 ho_54 ag_54 ob_54 => ?_)
            have ov54 := ho_54 (.inl (by simp))
            rw [show _ ++ [_] = ((v ++ [(⟨y.n, y.v⟩ : It)]).map It.cells) from by rw [List.map_append]; rfl] at ov54
            have dd_ov54_hI := obDF ob_54 dv (fun k hk => (hI.ge k hk).2)
            have d_ov54_b_3 := obNe ob_54 d_ov_b_3 hb_3.lt
            have d_ov54_b_4 := obNe ob_54 d_ov_b_4 hb_4.lt
            have d_ov54_b_6 := obNe ob_54 d_ov_b_6 hb_6.lt
            have dd_ov54_om36 := obDD ob_54 (fun k h1 h2 => dd_om36_ov k h2 h1) (fun k hk => (om36.ge k hk).2)
            have d_ov54_b_8 := obNe ob_54 d_ov_b_8 hb_8.lt
            have S := S.agrN ag_54 (fun k e => Nat.le_trans (by omega) e.2)
            have hI := hI.step ag_54 (fun k hk e => dv k e.1 hk)
            have szB := Nat.le_trans szB ag_54.size
            have hb_3 := hb_3.step ag_54 (fun e => d_ov_b_3 _ e.1 rfl)
            have hb_4 := hb_4.step ag_54 (fun e => d_ov_b_4 _ e.1 rfl)
            have hb_6 := hb_6.step ag_54 (fun e => d_ov_b_6 _ e.1 rfl)
            have om36 := om36.step ag_54 (fun k hk e => (fun k h1 h2 => dd_om36_ov k h2 h1) k e.1 hk)
            have hb_8 := hb_8.step ag_54 (fun e => d_ov_b_8 _ e.1 rfl)
            obtain ⟨a_54, c_54, rfl, k_54⟩ := ov54.form
            refine RL.ev (.field0 fo90_1 rfl) rfl rfl ?_
            refine RL.store sh26 rfl rfl rfl hb_4 (by exact Nat.le_of_ble_eq_true rfl) (by rfl) rfl (fun w18 z18 hb_4 a18 => ?_)
            have S := S.upd a18 ge_4
            have hI := hI.updD a18 d_hI_b_4
            have szB := Nat.le_trans szB a18.size
            have hb_3 := hb_3.upd a18 n_3__4
            have hb_6 := hb_6.upd a18 n_4__6.symm
            have om36 := om36.updD a18 d_om36_b_4
            have hb_8 := hb_8.upd a18 n_4__8.symm
            have ov54 := ov54.updD a18 d_ov54_b_4
            have hb_4 : Has w18 b_4 (sC (met ++ [placeR r], v ++ [⟨y.n, y.v⟩], true) a_36 c_36 a_54 c_54) _ := hb_4
            refine RL.nil (RC.back ?_)
            refine RC.seq ?_
            refine RC.region rfl ?_
            refine RL.ev (.loadR (sC (met ++ [placeR r], v ++ [⟨y.n, y.v⟩], true) a_36 c_36 a_54 c_54) sh90 rfl hb_4.row rfl) rfl rfl ?_
            refine RL.store sh90 rfl rfl rfl hb_6 (by exact Nat.le_of_ble_eq_true rfl) (by rfl) rfl (fun w19 z19 hb_6 a19 => ?_)
            have S := S.upd a19 ge_6
            have hI := hI.updD a19 d_hI_b_6
            have szB := Nat.le_trans szB a19.size
            have hb_3 := hb_3.upd a19 n_3__6
            have hb_4 := hb_4.upd a19 n_4__6
            have om36 := om36.updD a19 d_om36_b_6
            have hb_8 := hb_8.upd a19 n_6__8.symm
            have ov54 := ov54.updD a19 d_ov54_b_6
            have hb_6 : Has w19 b_6 (sC (met ++ [placeR r], v ++ [⟨y.n, y.v⟩], true) a_36 c_36 a_54 c_54) _ := hb_6.now (by kernel_rfl)
            refine RL.nil (RC.back ?_)
            refine RC.done (rs := [.cell 6 90]) (vs := [_]) rfl rfl ⟨⟨_, rfl, .inr ⟨sC (met ++ [placeR r], v ++ [⟨y.n, y.v⟩], true) a_36 c_36 a_54 c_54, sh90, hb_6.row, rfl⟩⟩, trivial⟩ ?_
            -- end 5
            rw [hres]
            exact ⟨a_36, c_36, a_54, c_54, rfl, ⟨S, szB, om36, ov54, fun k h1 h2 => dd_ov54_om36 k h2 h1, hI, dd_om36_hI, dd_ov54_hI⟩⟩
          ·
            have h3 : ¬ y.kind = 3 := h17
            refine RC.skip (RC.back ?_)
            refine RC.seq ?_
            refine RC.seq ?_
            refine RC.region rfl ?_
            refine RL.ev (.field0 fo97_0 rfl) rfl rfl ?_
            refine RL.ev (.load1 sh3 rfl (hb_8.cell rfl)) rfl rfl ?_
            refine RL.ev (.bin rfl rfl rfl) rfl rfl ?_
            refine RL.ev (.move rfl) rfl rfl ?_
            refine RL.split 60 rfl (fun h20 => ?_) (fun h20 => ?_)
            ·
              have h2 : ¬ y.kind = 2 := h20
              refine RL.ev (.field0 fo97_0 rfl) rfl rfl ?_
              refine RL.ev (.load1 sh3 rfl (hb_8.cell rfl)) rfl rfl ?_
              refine RL.ev (.bin rfl rfl rfl) rfl rfl ?_
              refine RL.ev (.pick_t rfl rfl) rfl rfl ?_
              refine RL.nil (RC.back ?_)
              refine RC.cond_dec rfl (fun h21 => ?_) (fun h21 => ?_)
              ·
                have h4 : ¬ y.kind = 4 := h21
                have hres := readH_odd (k := k) h0 hy hnm h3 ⟨h2, h4⟩
                refine RC.seq ?_
                refine RC.region rfl ?_
                refine RL.ev (.field0 fo90_2 rfl) rfl rfl ?_
                refine RL.store sh4 rfl rfl rfl hb_4 (by exact Nat.le_of_ble_eq_true rfl) (by rfl) rfl (fun w22 z22 hb_4 a22 => ?_)
                have S := S.upd a22 ge_4
                have ov := ov.updD a22 d_ov_b_4
                have hI := hI.updD a22 d_hI_b_4
                have szB := Nat.le_trans szB a22.size
                have hb_3 := hb_3.upd a22 n_3__4
                have hb_6 := hb_6.upd a22 n_4__6.symm
                have om36 := om36.updD a22 d_om36_b_4
                have hb_8 := hb_8.upd a22 n_4__8.symm
                have hb_4 : Has w22 b_4 (sC (met ++ [placeR r], v, false) a_36 c_36 va vc) _ := hb_4
                refine RL.nil (RC.back ?_)
                refine RC.seq ?_
                refine RC.region rfl ?_
                refine RL.ev (.loadR (sC (met ++ [placeR r], v, false) a_36 c_36 va vc) sh90 rfl hb_4.row rfl) rfl rfl ?_
                refine RL.store sh90 rfl rfl rfl hb_6 (by exact Nat.le_of_ble_eq_true rfl) (by rfl) rfl (fun w23 z23 hb_6 a23 => ?_)
                have S := S.upd a23 ge_6
                have ov := ov.updD a23 d_ov_b_6
                have hI := hI.updD a23 d_hI_b_6
                have szB := Nat.le_trans szB a23.size
                have hb_3 := hb_3.upd a23 n_3__6
                have hb_4 := hb_4.upd a23 n_4__6
                have om36 := om36.updD a23 d_om36_b_6
                have hb_8 := hb_8.upd a23 n_6__8.symm
                have hb_6 : Has w23 b_6 (sC (met ++ [placeR r], v, false) a_36 c_36 va vc) _ := hb_6.now (by kernel_rfl)
                refine RL.nil (RC.back ?_)
                refine RC.done (rs := [.cell 6 90]) (vs := [_]) rfl rfl ⟨⟨_, rfl, .inr ⟨sC (met ++ [placeR r], v, false) a_36 c_36 va vc, sh90, hb_6.row, rfl⟩⟩, trivial⟩ ?_
                -- end 6
                rw [hres]
                exact ⟨a_36, c_36, va, vc, rfl, ⟨S, szB, om36, ov, dd_om36_ov, hI, dd_om36_hI, dv⟩⟩
              ·
                have h4 : ¬ (¬ y.kind = 2 ∧ ¬ y.kind = 4) := (fun e => e.2 (by have := h21; omega))
                have hres := readH_go (k := k) h0 hy hnm h3 h4
                refine RC.skip (RC.back ?_)
                refine RC.seq ?_
                refine RC.seq ?_
                refine RC.region rfl ?_
                refine RL.ev (.field0 fo97_5 rfl) rfl rfl ?_
                refine RL.ev (.as (v' := .agg (y.kids.map u6).toArray) (.loadR (y.kids.map u6) sh95 rfl (Has.row_at (pre := [i6 y.kind, i6 y.gen, i6 y.n, i6 y.v, i6 y.s]) (mid := y.kids.map u6) (post := [i6 y.pre, i6 y.suf]) hb_8 rfl) rfl) (by rfl)) rfl rfl ?_
                refine RL.ev (.move rfl) rfl rfl ?_
                refine RL.nil (RC.back ?_)
                refine RC.block ?_
                refine RC.loop (α := Nat × Option Addr × Nat × Option Addr × Nat) (fun x => [(3, .pointer (some ⟨b_3, 0, none⟩)), (4, .pointer (some ⟨b_4, 0, none⟩)), (6, .pointer (some ⟨b_6, 0, none⟩)), (68, .agg (y.kids.map u6).toArray), (69, .int .i64 (x.1 : Int))]) (fun x w24 => x.1 ≤ 9 ∧ RhL w0 E K I A k y.kids (met ++ [placeR r], v, true) b_3 b_4 b_6 na fa nc fc x.1 x.2.1 x.2.2.1 x.2.2.2.1 x.2.2.2.2 w24) (fun x => 9 - x.1) (0, a_36, c_36, va, vc) (keep_of (by repeat (first | exact trivial | refine And.intro rfl ?_))) (⟨Nat.zero_le _, ⟨⟨(met ++ [placeR r], v, true), rfl, hok.add hrg hnm true, Nat.le_refl _, ⟨S, szB, om36, ov, dd_om36_ov, hI.self.and (hb_3.ft.and (hb_4.ft.and hb_6.ft)), fun k h1 h2 => h2.elim (dd_om36_hI k h1) (fun h2 => h2.elim (d_om36_b_3 k h1) (fun h2 => h2.elim (d_om36_b_4 k h1) (d_om36_b_6 k h1))), fun k h1 h2 => h2.elim (dv k h1) (fun h2 => h2.elim (d_ov_b_3 k h1) (fun h2 => h2.elim (d_ov_b_4 k h1) (d_ov_b_6 k h1)))⟩⟩⟩⟩) (fun x w24 hJ => ?_)
                obtain ⟨j, ma1, mc1, va1, vc1⟩ := x; obtain ⟨hj, hL⟩ := hJ; simp only [] at hj hL; obtain ⟨t1, ht1, hok1, hlm1, hs1⟩ := hL.is; obtain ⟨m1, v1, o1⟩ := t1; obtain ⟨S, szB, om, ov, dmv, hI2, dm2, dv2⟩ := hs1; simp only [] at om ov dmv dm2 dv2; obtain ⟨hI, hb_3, hb_4, hb_6⟩ := hI2.now; have q1m := fun k h1 h2 => dm2 k h1 (.inl h2); have q1v := fun k h1 h2 => dv2 k h1 (.inl h2); have q3m := fun k h1 h2 => dm2 k h1 (.inr (.inl h2)); have q3v := fun k h1 h2 => dv2 k h1 (.inr (.inl h2)); have q4m := fun k h1 h2 => dm2 k h1 (.inr (.inr (.inl h2))); have q4v := fun k h1 h2 => dv2 k h1 (.inr (.inr (.inl h2))); have q6m := fun k h1 h2 => dm2 k h1 (.inr (.inr (.inr h2))); have q6v := fun k h1 h2 => dv2 k h1 (.inr (.inr (.inr h2)))
                refine RC.seq ?_
                refine RC.region rfl ?_
                refine RL.ev (.bin rfl rfl rfl) rfl rfl ?_
                refine RL.nil (RC.back ?_)
                refine RC.seq ?_
                refine RC.cond_dec rfl (fun h25 => ?_) (fun h25 => ?_)
                ·
                  obtain ⟨z, hz⟩ := getSome (l := y.kids) (i := j) (by show j < 9; omega)
                  refine RC.skip (RC.back ?_)
                  refine RC.seq ?_
                  refine RC.block ?_
                  refine RC.seq ?_
                  refine RC.region rfl ?_
                  refine RL.ev (.index1 ar95 sh36 rfl rfl (by omega) ((by simp [hz] : (y.kids.map u6).toArray[(j : Int).toNat * 1]? = some (u6 z)))) rfl rfl ?_
                  refine RL.ev (.assign rfl) rfl rfl ?_
                  refine RL.nil (RC.back ?_)
                  refine RC.region rfl ?_
                  refine RL.ev (.loadR ([.slice na A.nodes.length nc, .slice fa A.free.length fc]) sh34 rfl hb_3.row rfl) rfl rfl ?_
                  refine RL.ev (.loadR (sC (m1, v1, o1) ma1 mc1 va1 vc1) sh90 rfl hb_4.row rfl) rfl rfl ?_
                  refine RL.ev (.move rfl) rfl rfl ?_
                  refine RL.call rfl ok52 (ih m1 v1 o1 ma1 mc1 va1 vc1 z (fun k => K k ∨ k = b_3 ∨ k = b_4 ∨ k = b_6) (fun u => Ft K I u ∧ Has u b_3 [.slice na A.nodes.length nc, .slice fa A.free.length fc] 34 ∧ Has u b_4 (sC (m1, v1, o1) ma1 mc1 va1 vc1) 90 ∧ Has u b_6 [.slice none 0 0, .slice none 0 0, .bool false] 90) w24 (hyo.kids z (List.mem_of_getElem? hz)) (by simp only [List.length_append, List.length_singleton] at hlm1; omega) hok1 ⟨S, szB, om, ov, dmv, hI.self.and (hb_3.ft.and (hb_4.ft.and hb_6.ft)), dm2, dv2⟩) rfl rfl ?_
                  rintro vr w26 ⟨ma3, mc3, va3, vc3, hvr, hs3⟩
                  obtain ⟨t3, ht3⟩ : ∃ t3, readH A k (m1, v1, o1) z = t3 := ⟨_, rfl⟩
                  have hinv3 := readH_inv (A := A) k (m1, v1, o1) z hok1
                  rw [ht3] at hvr hs3 hinv3
                  have ht4 := rhFold hz ht1 ht3
                  obtain ⟨S, szB, om, ov, dmv, hI2, dm2, dv2⟩ := hs3
                  obtain ⟨hI, hb_3, hb_4, hb_6⟩ := hI2.now
                  subst hvr
                  have q1m := fun k h1 h2 => dm2 k h1 (.inl h2)
                  have q1v := fun k h1 h2 => dv2 k h1 (.inl h2)
                  have q3m := fun k h1 h2 => dm2 k h1 (.inr (.inl h2))
                  have q3v := fun k h1 h2 => dv2 k h1 (.inr (.inl h2))
                  have q4m := fun k h1 h2 => dm2 k h1 (.inr (.inr (.inl h2)))
                  have q4v := fun k h1 h2 => dv2 k h1 (.inr (.inr (.inl h2)))
                  have q6m := fun k h1 h2 => dm2 k h1 (.inr (.inr (.inr h2)))
                  have q6v := fun k h1 h2 => dv2 k h1 (.inr (.inr (.inr h2)))
                  refine RL.store sh90 rfl rfl rfl hb_4 (by exact Nat.le_of_ble_eq_true rfl) (by rfl) rfl (fun w28 z28 hb_4 a28 => ?_)
                  have S := S.upd a28 ge_4
                  have om := om.updD a28 q4m
                  have ov := ov.updD a28 q4v
                  have hI := hI.updD a28 d_hI_b_4
                  have szB := Nat.le_trans szB a28.size
                  have hb_3 := hb_3.upd a28 n_3__4
                  have hb_6 := hb_6.upd a28 n_4__6.symm
                  have hb_4 : Has w28 b_4 (sC t3 ma3 mc3 va3 vc3) _ := hb_4.now (by kernel_rfl)
                  refine RL.nil (RC.back ?_)
                  refine RC.region rfl ?_
                  refine RL.ev (.as (.bin rfl rfl rfl) (wi64 (y := ((j + 1 : Nat) : Int)) (by omega) (by omega))) rfl rfl ?_
                  refine RL.ev (.move rfl) rfl rfl ?_
                  exact RL.nil (fun a ka => ⟨(j + 1, ma3, mc3, va3, vc3), ⟨by omega, ⟨⟨_, ht4, hinv3.1, Nat.le_trans hlm1 hinv3.2, ⟨S, szB, om, ov, dmv, hI.self.and (hb_3.ft.and (hb_4.ft.and hb_6.ft)), dm2, dv2⟩⟩⟩⟩, by omega, ka.keep (keep_of (by repeat (first | exact trivial | refine And.intro rfl ?_)))⟩)
                ·
                  obtain rfl : j = 9 := (by omega)
                  rw [rhAll] at ht1
                  rw [ht1] at hres
                  refine RC.exit rfl (RC.back ?_)
                  refine RC.seq ?_
                  refine RC.region rfl ?_
                  refine RL.ev (.loadR (sC (m1, v1, o1) ma1 mc1 va1 vc1) sh90 rfl hb_4.row rfl) rfl rfl ?_
                  refine RL.store sh90 rfl rfl rfl hb_6 (by exact Nat.le_of_ble_eq_true rfl) (by rfl) rfl (fun w29 z29 hb_6 a29 => ?_)
                  have S := S.upd a29 ge_6
                  have om := om.updD a29 q6m
                  have ov := ov.updD a29 q6v
                  have hI := hI.updD a29 d_hI_b_6
                  have szB := Nat.le_trans szB a29.size
                  have hb_3 := hb_3.upd a29 n_3__6
                  have hb_4 := hb_4.upd a29 n_4__6
                  have hb_6 : Has w29 b_6 (sC (m1, v1, o1) ma1 mc1 va1 vc1) _ := hb_6.now (by kernel_rfl)
                  refine RL.nil (RC.back ?_)
                  refine RC.done (rs := [.cell 6 90]) (vs := [_]) rfl rfl ⟨⟨_, rfl, .inr ⟨sC (m1, v1, o1) ma1 mc1 va1 vc1, sh90, hb_6.row, rfl⟩⟩, trivial⟩ ?_
                  -- end 7
                  rw [hres]
                  exact ⟨ma1, mc1, va1, vc1, rfl, ⟨S, szB, om, ov, dmv, hI, q1m, q1v⟩⟩
            ·
              have h4 : ¬ (¬ y.kind = 2 ∧ ¬ y.kind = 4) := (fun e => e.1 (by have := h20; omega))
              have hres := readH_go (k := k) h0 hy hnm h3 h4
              refine RL.off rfl rfl ?_
              refine RL.off rfl rfl ?_
              refine RL.off rfl rfl ?_
              refine RL.ev (.pick_f rfl rfl) rfl rfl ?_
              refine RL.nil (RC.back ?_)
              refine RC.cond_f rfl ?_
              refine RC.skip (RC.back ?_)
              refine RC.seq ?_
              refine RC.seq ?_
              refine RC.region rfl ?_
              refine RL.ev (.field0 fo97_5 rfl) rfl rfl ?_
              refine RL.ev (.as (v' := .agg (y.kids.map u6).toArray) (.loadR (y.kids.map u6) sh95 rfl (Has.row_at (pre := [i6 y.kind, i6 y.gen, i6 y.n, i6 y.v, i6 y.s]) (mid := y.kids.map u6) (post := [i6 y.pre, i6 y.suf]) hb_8 rfl) rfl) (by rfl)) rfl rfl ?_
              refine RL.ev (.move rfl) rfl rfl ?_
              refine RL.nil (RC.back ?_)
              refine RC.block ?_
              refine RC.loop (α := Nat × Option Addr × Nat × Option Addr × Nat) (fun x => [(3, .pointer (some ⟨b_3, 0, none⟩)), (4, .pointer (some ⟨b_4, 0, none⟩)), (6, .pointer (some ⟨b_6, 0, none⟩)), (68, .agg (y.kids.map u6).toArray), (69, .int .i64 (x.1 : Int))]) (fun x w30 => x.1 ≤ 9 ∧ RhL w0 E K I A k y.kids (met ++ [placeR r], v, true) b_3 b_4 b_6 na fa nc fc x.1 x.2.1 x.2.2.1 x.2.2.2.1 x.2.2.2.2 w30) (fun x => 9 - x.1) (0, a_36, c_36, va, vc) (keep_of (by repeat (first | exact trivial | refine And.intro rfl ?_))) (⟨Nat.zero_le _, ⟨⟨(met ++ [placeR r], v, true), rfl, hok.add hrg hnm true, Nat.le_refl _, ⟨S, szB, om36, ov, dd_om36_ov, hI.self.and (hb_3.ft.and (hb_4.ft.and hb_6.ft)), fun k h1 h2 => h2.elim (dd_om36_hI k h1) (fun h2 => h2.elim (d_om36_b_3 k h1) (fun h2 => h2.elim (d_om36_b_4 k h1) (d_om36_b_6 k h1))), fun k h1 h2 => h2.elim (dv k h1) (fun h2 => h2.elim (d_ov_b_3 k h1) (fun h2 => h2.elim (d_ov_b_4 k h1) (d_ov_b_6 k h1)))⟩⟩⟩⟩) (fun x w30 hJ => ?_)
              obtain ⟨j, ma1, mc1, va1, vc1⟩ := x; obtain ⟨hj, hL⟩ := hJ; simp only [] at hj hL; obtain ⟨t1, ht1, hok1, hlm1, hs1⟩ := hL.is; obtain ⟨m1, v1, o1⟩ := t1; obtain ⟨S, szB, om, ov, dmv, hI2, dm2, dv2⟩ := hs1; simp only [] at om ov dmv dm2 dv2; obtain ⟨hI, hb_3, hb_4, hb_6⟩ := hI2.now; have q1m := fun k h1 h2 => dm2 k h1 (.inl h2); have q1v := fun k h1 h2 => dv2 k h1 (.inl h2); have q3m := fun k h1 h2 => dm2 k h1 (.inr (.inl h2)); have q3v := fun k h1 h2 => dv2 k h1 (.inr (.inl h2)); have q4m := fun k h1 h2 => dm2 k h1 (.inr (.inr (.inl h2))); have q4v := fun k h1 h2 => dv2 k h1 (.inr (.inr (.inl h2))); have q6m := fun k h1 h2 => dm2 k h1 (.inr (.inr (.inr h2))); have q6v := fun k h1 h2 => dv2 k h1 (.inr (.inr (.inr h2)))
              refine RC.seq ?_
              refine RC.region rfl ?_
              refine RL.ev (.bin rfl rfl rfl) rfl rfl ?_
              refine RL.nil (RC.back ?_)
              refine RC.seq ?_
              refine RC.cond_dec rfl (fun h31 => ?_) (fun h31 => ?_)
              ·
                obtain ⟨z, hz⟩ := getSome (l := y.kids) (i := j) (by show j < 9; omega)
                refine RC.skip (RC.back ?_)
                refine RC.seq ?_
                refine RC.block ?_
                refine RC.seq ?_
                refine RC.region rfl ?_
                refine RL.ev (.index1 ar95 sh36 rfl rfl (by omega) ((by simp [hz] : (y.kids.map u6).toArray[(j : Int).toNat * 1]? = some (u6 z)))) rfl rfl ?_
                refine RL.ev (.assign rfl) rfl rfl ?_
                refine RL.nil (RC.back ?_)
                refine RC.region rfl ?_
                refine RL.ev (.loadR ([.slice na A.nodes.length nc, .slice fa A.free.length fc]) sh34 rfl hb_3.row rfl) rfl rfl ?_
                refine RL.ev (.loadR (sC (m1, v1, o1) ma1 mc1 va1 vc1) sh90 rfl hb_4.row rfl) rfl rfl ?_
                refine RL.ev (.move rfl) rfl rfl ?_
                refine RL.call rfl ok52 (ih m1 v1 o1 ma1 mc1 va1 vc1 z (fun k => K k ∨ k = b_3 ∨ k = b_4 ∨ k = b_6) (fun u => Ft K I u ∧ Has u b_3 [.slice na A.nodes.length nc, .slice fa A.free.length fc] 34 ∧ Has u b_4 (sC (m1, v1, o1) ma1 mc1 va1 vc1) 90 ∧ Has u b_6 [.slice none 0 0, .slice none 0 0, .bool false] 90) w30 (hyo.kids z (List.mem_of_getElem? hz)) (by simp only [List.length_append, List.length_singleton] at hlm1; omega) hok1 ⟨S, szB, om, ov, dmv, hI.self.and (hb_3.ft.and (hb_4.ft.and hb_6.ft)), dm2, dv2⟩) rfl rfl ?_
                rintro vr w32 ⟨ma3, mc3, va3, vc3, hvr, hs3⟩
                obtain ⟨t3, ht3⟩ : ∃ t3, readH A k (m1, v1, o1) z = t3 := ⟨_, rfl⟩
                have hinv3 := readH_inv (A := A) k (m1, v1, o1) z hok1
                rw [ht3] at hvr hs3 hinv3
                have ht4 := rhFold hz ht1 ht3
                obtain ⟨S, szB, om, ov, dmv, hI2, dm2, dv2⟩ := hs3
                obtain ⟨hI, hb_3, hb_4, hb_6⟩ := hI2.now
                subst hvr
                have q1m := fun k h1 h2 => dm2 k h1 (.inl h2)
                have q1v := fun k h1 h2 => dv2 k h1 (.inl h2)
                have q3m := fun k h1 h2 => dm2 k h1 (.inr (.inl h2))
                have q3v := fun k h1 h2 => dv2 k h1 (.inr (.inl h2))
                have q4m := fun k h1 h2 => dm2 k h1 (.inr (.inr (.inl h2)))
                have q4v := fun k h1 h2 => dv2 k h1 (.inr (.inr (.inl h2)))
                have q6m := fun k h1 h2 => dm2 k h1 (.inr (.inr (.inr h2)))
                have q6v := fun k h1 h2 => dv2 k h1 (.inr (.inr (.inr h2)))
                refine RL.store sh90 rfl rfl rfl hb_4 (by exact Nat.le_of_ble_eq_true rfl) (by rfl) rfl (fun w34 z34 hb_4 a34 => ?_)
                have S := S.upd a34 ge_4
                have om := om.updD a34 q4m
                have ov := ov.updD a34 q4v
                have hI := hI.updD a34 d_hI_b_4
                have szB := Nat.le_trans szB a34.size
                have hb_3 := hb_3.upd a34 n_3__4
                have hb_6 := hb_6.upd a34 n_4__6.symm
                have hb_4 : Has w34 b_4 (sC t3 ma3 mc3 va3 vc3) _ := hb_4.now (by kernel_rfl)
                refine RL.nil (RC.back ?_)
                refine RC.region rfl ?_
                refine RL.ev (.as (.bin rfl rfl rfl) (wi64 (y := ((j + 1 : Nat) : Int)) (by omega) (by omega))) rfl rfl ?_
                refine RL.ev (.move rfl) rfl rfl ?_
                exact RL.nil (fun a ka => ⟨(j + 1, ma3, mc3, va3, vc3), ⟨by omega, ⟨⟨_, ht4, hinv3.1, Nat.le_trans hlm1 hinv3.2, ⟨S, szB, om, ov, dmv, hI.self.and (hb_3.ft.and (hb_4.ft.and hb_6.ft)), dm2, dv2⟩⟩⟩⟩, by omega, ka.keep (keep_of (by repeat (first | exact trivial | refine And.intro rfl ?_)))⟩)
              ·
                obtain rfl : j = 9 := (by omega)
                rw [rhAll] at ht1
                rw [ht1] at hres
                refine RC.exit rfl (RC.back ?_)
                refine RC.seq ?_
                refine RC.region rfl ?_
                refine RL.ev (.loadR (sC (m1, v1, o1) ma1 mc1 va1 vc1) sh90 rfl hb_4.row rfl) rfl rfl ?_
                refine RL.store sh90 rfl rfl rfl hb_6 (by exact Nat.le_of_ble_eq_true rfl) (by rfl) rfl (fun w35 z35 hb_6 a35 => ?_)
                have S := S.upd a35 ge_6
                have om := om.updD a35 q6m
                have ov := ov.updD a35 q6v
                have hI := hI.updD a35 d_hI_b_6
                have szB := Nat.le_trans szB a35.size
                have hb_3 := hb_3.upd a35 n_3__6
                have hb_4 := hb_4.upd a35 n_4__6
                have hb_6 : Has w35 b_6 (sC (m1, v1, o1) ma1 mc1 va1 vc1) _ := hb_6.now (by kernel_rfl)
                refine RL.nil (RC.back ?_)
                refine RC.done (rs := [.cell 6 90]) (vs := [_]) rfl rfl ⟨⟨_, rfl, .inr ⟨sC (m1, v1, o1) ma1 mc1 va1 vc1, sh90, hb_6.row, rfl⟩⟩, trivial⟩ ?_
                -- end 8
                rw [hres]
                exact ⟨ma1, mc1, va1, vc1, rfl, ⟨S, szB, om, ov, dmv, hI, q1m, q1v⟩⟩
end Go.Proofs.Ytbfjobmebkhblaa
set_option linter.unusedVariables false
set_option linter.unusedSimpArgs false
namespace Go.Proofs.Ytbfjobmebkhblaa
open Go Go.XL
/-- what is read of a reference -/
def readT (A : Ar) (r : Int) : Rh := readH A (10 + A.nodes.length + 2) ([], [], true) r
theorem readT_tab {A : Ar} {r : Int} {L : List It} (h : IsH A 10 r L) (hap : Ap L) : (readT A r).2.2 = true ∧ (readT A r).2.1.Perm L := by
  unfold readT
  rw [readH_ok A.nodes.length h hap [] [] List.nodup_nil (fun p _ h => by cases h)]
  exact ⟨rfl, by rw [List.nil_append]; exact rd_perm h⟩
theorem readT_len (A : Ar) (r : Int) : (readT A r).2.1.length ≤ A.nodes.length := by
  have h := (readH_inv (A := A) (10 + A.nodes.length + 2) ([], [], true) r ⟨List.nodup_nil, fun p h => (by cases h), Nat.le_refl _⟩).1
  have h1 := h.row
  have h2 := h.len
  unfold readT
  omega
theorem c_readT (A : Ar) (na fa : Option Addr) (nc fc : Nat) (hn : A.nodes.length ≤ 1000000) (r : Int) (hr : U64 r) (w : World) (hA : ArR w na fa A) :
    FC Try.prog 52 [arV na fa nc fc A, .agg (sC ([], [], true) none 0 none 0).toArray, .int .u64 r] w (fun u w' => Sub w w' ∧ ∃ ma mc va vc, u = .agg (sC (readT A r) ma mc va vc).toArray ∧ Ows w.heap.size w' 29 2 (.slice va ((readT A r).2.1.map It.cells).length vc) ((readT A r).2.1.map It.cells)) := by
  refine FC.mono (c_ReadH A na fa nc fc hn w hA w.heap.size (Nat.le_refl _) (10 + A.nodes.length + 2) [] [] true none 0 none 0 r (fun _ => False) (fun _ => True) w hr (by show A.nodes.length + 1 ≤ 0 + _; omega) ⟨List.nodup_nil, fun p h => (by cases h), Nat.le_refl _⟩ ⟨Sub.refl _, Nat.le_refl _, Ows.nil _ _ _ _, Ows.nil _ _ _ _, fun _ h => obNil h, ⟨fun _ h => h.elim, fun _ _ => trivial⟩, fun _ _ h => h.elim, fun _ _ h => h.elim⟩) ?_
  rintro u w' ⟨ma, mc, va, vc, rfl, hs⟩
  exact ⟨hs.S, ma, mc, va, vc, rfl, hs.ov⟩
theorem c_row9 (A : Ar) (na fa : Option Addr) (nc fc : Nat) (hn : A.nodes.length ≤ 1000000) (r : Int) (hr : U64 r) (w : World) (hA : ArR w na fa A) :
    FC Try.prog 28 [arV na fa nc fc A, .int .u64 r] w (fun u w' => Sub w w' ∧ ∃ a c, u = .slice a (readT A r).2.1.length c ∧ Sl w' a 2 ((readT A r).2.1.map It.cells) ∧ (readT A r).2.1.length ≤ c ∧ (readT A r).2.1.length ≤ A.nodes.length) := by
  have hNd := hA.nodes
  have hFr := hA.free
  have hlen := readT_len A r
  refine FC.intro Try.func28 rfl Try.ntmps28 rfl ?_
  have S := Sub.refl w
  refine RC.seq ?_
  refine RC.region rfl ?_
  refine RL.box rfl rfl rfl (fun b_2 w_2 e_2 z_2 hb_2 s_2 => ?_)
  have ge_2 := S.le e_2
  have S := S.trans s_2
  have hb_2 : Has w_2 b_2 ([.slice na A.nodes.length nc, .slice fa A.free.length fc]) _ := hb_2
  refine RL.ev (.assign rfl) rfl rfl ?_
  refine RL.nil (RC.back ?_)
  refine RC.seq ?_
  refine RC.region rfl ?_
  refine RL.ev (.loadR ([.slice na A.nodes.length nc, .slice fa A.free.length fc]) sh34 rfl hb_2.row rfl) rfl rfl ?_
  refine RL.ev (.buildS ze90 pl90 rfl rfl) rfl rfl ?_
  refine RL.ev (.move rfl) rfl rfl ?_
  refine RL.call rfl ok52 (c_readT A na fa nc fc hn r hr w_2 (hA.sub S)) rfl rfl ?_
  rintro vr w1 ⟨s2, ma, mc, va, vc, rfl, ov⟩
  have S := S.trans s2
  have hb_2 := hb_2.sub s2
  refine RL.ev (.fieldV Try.underlying90 rfl sh26 rfl rfl) rfl rfl ?_
  refine RL.ev (.assign rfl) rfl rfl ?_
  refine RL.nil (RC.back ?_)
  refine RC.done (rs := [.tmp 4]) (vs := [_]) rfl rfl ⟨rfl, trivial⟩ ?_
  -- end 1
  have hVc := ov.form
  obtain ⟨_, c', e, h⟩ := hVc
  cases e
  exact ⟨S, va, vc, (by show Value.slice va _ vc = _; rw [List.length_map]), ov.sl.1, by rw [List.length_map] at h; exact h, hlen⟩
theorem isTab_read {A : Ar} {r : Int} (hA : AOk A) : isTab A r ↔ (readT A r).2.2 = true ∧ (readT A r).2.1.length ≤ 200 ∧ Ap (readT A r).2.1 ∧ IsH A 10 r (readT A r).2.1 := by
  constructor
  · rintro ⟨_, L, h1, h2, h3⟩
    obtain ⟨q1, q2⟩ := readT_tab h1 h2
    exact ⟨q1, by rw [q2.length_eq]; exact h3, h2.perm q2.symm, h1.perm q2.symm⟩
  · rintro ⟨h1, h2, h3, h4⟩
    exact ⟨hA, _, h4, h3, h2⟩
theorem c_right9 (A : Ar) (na fa : Option Addr) (nc fc : Nat) (hn : A.nodes.length ≤ 1000000) (r : Int) (hr : U64 r) (w : World) (hA : ArR w na fa A) :
    FC Try.prog 26 [arV na fa nc fc A, .int .u64 r] w (Val (.bool (isTabB A r)) w) := by
  have hNd := hA.nodes
  have hFr := hA.free
  have hlen := readT_len A r
  obtain ⟨⟨m, V, ok⟩, ht⟩ : ∃ t, readT A r = t := ⟨_, rfl⟩
  have hiff := fun h => isTab_read (A := A) (r := r) h
  rw [ht] at hlen hiff
  simp only [] at hlen hiff
  refine FC.intro Try.func26 rfl Try.ntmps26 rfl ?_
  have S := Sub.refl w
  refine RC.seq ?_
  refine RC.region rfl ?_
  refine RL.box rfl rfl rfl (fun b_2 w_2 e_2 z_2 hb_2 s_2 => ?_)
  have ge_2 := S.le e_2
  have S := S.trans s_2
  have hb_2 : Has w_2 b_2 ([.slice na A.nodes.length nc, .slice fa A.free.length fc]) _ := hb_2
  refine RL.ev (.assign rfl) rfl rfl ?_
  refine RL.nil (RC.back ?_)
  refine RC.seq ?_
  refine RC.region rfl ?_
  refine RL.ev (.loadR ([.slice na A.nodes.length nc, .slice fa A.free.length fc]) sh34 rfl hb_2.row rfl) rfl rfl ?_
  refine RL.ev (.buildS ze90 pl90 rfl rfl) rfl rfl ?_
  refine RL.ev (.move rfl) rfl rfl ?_
  refine RL.call rfl ok52 (c_readT A na fa nc fc hn r hr w_2 (hA.sub S)) rfl rfl ?_
  rintro vr w1 ⟨s2, ma, mc, va, vc, hvr, ov⟩
  have S := S.trans s2
  have hb_2 := hb_2.sub s2
  rw [ht] at hvr ov
  subst hvr
  obtain ⟨W1, S1, ov⟩ : ∃ W1, Sub W1 w1 ∧ Ows _ W1 29 2 (.slice va (V.map It.cells).length vc) (V.map It.cells) := ⟨_, Sub.refl _, ov⟩
  refine RL.alloc ze90 rfl rfl (fun b_5 w_5 e_5 z_5 hb_5 s_5 => ?_)
  have ge_5 := S.le e_5
  have n_2__5 := hb_2.ne e_5
  have S := S.trans s_5
  have hb_2 := hb_2.sub s_5
  have geS1_5 := S1.le e_5
  have S1 := S1.trans s_5
  refine RL.store sh90 rfl rfl rfl hb_5 (by exact Nat.le_of_ble_eq_true rfl) (by rfl) rfl (fun w3 z3 hb_5 a3 => ?_)
  have S := S.upd a3 ge_5
  have hb_2 := hb_2.upd a3 n_2__5
  have S1 := S1.upd a3 geS1_5
  have hb_5 : Has w3 b_5 (sC (m, V, ok) ma mc va vc) _ := hb_5.now (by kernel_rfl)
  refine RL.nil (RC.back ?_)
  refine RC.seq ?_
  refine RC.region rfl ?_
  refine RL.ev (.loadR ([.slice na A.nodes.length nc, .slice fa A.free.length fc]) sh34 rfl hb_2.row rfl) rfl rfl ?_
  refine RL.call rfl ok41 (c_r4Right A na fa nc fc w3 (hA.sub S)) rfl rfl ?_
  rintro _ w4 ⟨rfl, s5⟩
  have S := S.trans s5
  have hb_2 := hb_2.sub s5
  have S1 := S1.trans s5
  have hb_5 := hb_5.sub s5
  refine RL.ev (.move rfl) rfl rfl ?_
  refine RL.splitB 12 rfl (fun h6 => ?_) (fun h6 => ?_)
  ·
    have q1 : AOk A := (aokB_iff A).1 h6
    refine RL.ev (.field0 fo90_2 rfl) rfl rfl ?_
    refine RL.ev (.load1 sh4 rfl (hb_5.cell rfl)) rfl rfl ?_
    refine RL.ev (.pick_t rfl rfl) rfl rfl ?_
    refine RL.ev (.move rfl) rfl rfl ?_
    refine RL.splitB 16 rfl (fun h7 => ?_) (fun h7 => ?_)
    ·
      have q2 : ok = true := h7
      refine RL.ev (.field0 fo90_1 rfl) rfl rfl ?_
      refine RL.ev (.load1 sh26 rfl (hb_5.cell rfl)) rfl rfl ?_
      refine RL.ev (.as (v' := .int .i64 (V.length : Int)) (.len sl26 rfl) (by rw [List.length_map])) rfl rfl ?_
      refine RL.ev (.bin rfl rfl rfl) rfl rfl ?_
      refine RL.ev (.pick_t rfl rfl) rfl rfl ?_
      refine RL.ev (.move rfl) rfl rfl ?_
      refine RL.split 22 rfl (fun h8 => ?_) (fun h8 => ?_)
      ·
        have q3 : V.length ≤ 200 := (by have := h8; omega)
        refine RL.ev (.field0 fo90_1 rfl) rfl rfl ?_
        refine RL.ev (.load1 sh26 rfl (hb_5.cell rfl)) rfl rfl ?_
        refine RL.call rfl ok53 (c_refApart V va vc _ (List.length_map _) w4 (ov.sl.1.sub S1) (by omega)) rfl rfl ?_
        rintro _ w9 ⟨rfl, s10⟩
        have S := S.trans s10
        have hb_2 := hb_2.sub s10
        have S1 := S1.trans s10
        have hb_5 := hb_5.sub s10
        refine RL.ev (.pick_t rfl rfl) rfl rfl ?_
        refine RL.ev (.move rfl) rfl rfl ?_
        refine RL.splitB 27 rfl (fun h11 => ?_) (fun h11 => ?_)
        ·
          have q4 : Ap V := (apB_iff V).1 h11
          refine RL.ev (.loadR ([.slice na A.nodes.length nc, .slice fa A.free.length fc]) sh34 rfl hb_2.row rfl) rfl rfl ?_
          refine RL.ev (.move rfl) rfl rfl ?_
          refine RL.ev (.field0 fo90_1 rfl) rfl rfl ?_
          refine RL.ev (.load1 sh26 rfl (hb_5.cell rfl)) rfl rfl ?_
          refine RL.call rfl ok32 (c_refIsH A na fa nc fc (by omega) 10 0 r V va vc _ w9 (Nat.le_refl _) rfl q4 (List.length_map _) hr (by omega) (hA.sub S) (ov.sl.1.sub S1)) rfl rfl ?_
          rintro _ w12 ⟨rfl, s13⟩
          have S := S.trans s13
          have hb_2 := hb_2.sub s13
          have S1 := S1.trans s13
          have hb_5 := hb_5.sub s13
          refine RL.ev (.pick_t rfl rfl) rfl rfl ?_
          refine RL.ev (.assign rfl) rfl rfl ?_
          refine RL.nil (RC.back ?_)
          refine RC.done (rs := [.tmp 4]) (vs := [_]) rfl rfl ⟨rfl, trivial⟩ ?_
          -- end 1
          first | exact ⟨congrArg Value.bool hres.symm, S⟩ | exact ⟨congrArg Value.bool (by rw [Bool.eq_iff_iff, isHB_iff, isTabB_iff, hiff q1]; exact ⟨fun h => ⟨q2, q3, q4, h⟩, fun h => h.2.2.2⟩), S⟩
        ·
          have hres : isTabB A r = false := isTabB_no (fun h => by have h2 := h11; rw [(apB_iff V).2 ((hiff q1).1 h).2.2.1] at h2; cases h2)
          refine RL.off rfl rfl ?_
          refine RL.off rfl rfl ?_
          refine RL.off rfl rfl ?_
          refine RL.off rfl rfl ?_
          refine RL.off rfl rfl ?_
          refine RL.ev (.pick_f rfl rfl) rfl rfl ?_
          refine RL.ev (.assign rfl) rfl rfl ?_
          refine RL.nil (RC.back ?_)
          refine RC.done (rs := [.tmp 4]) (vs := [_]) rfl rfl ⟨rfl, trivial⟩ ?_
          -- end 2
          first | exact ⟨congrArg Value.bool hres.symm, S⟩ | exact ⟨congrArg Value.bool (by rw [Bool.eq_iff_iff, isHB_iff, isTabB_iff, hiff q1]; exact ⟨fun h => ⟨q2, q3, q4, h⟩, fun h => h.2.2.2⟩), S⟩
      ·
        have hres : isTabB A r = false := isTabB_no (fun h => by have h2 := h8; have := ((hiff q1).1 h).2.1; omega)
        refine RL.off rfl rfl ?_
        refine RL.off rfl rfl ?_
        refine RL.off rfl rfl ?_
        refine RL.ev (.pick_f rfl rfl) rfl rfl ?_
        refine RL.ev (.move rfl) rfl rfl ?_
        refine RL.off rfl rfl ?_
        refine RL.off rfl rfl ?_
        refine RL.off rfl rfl ?_
        refine RL.off rfl rfl ?_
        refine RL.off rfl rfl ?_
        refine RL.ev (.pick_f rfl rfl) rfl rfl ?_
        refine RL.ev (.assign rfl) rfl rfl ?_
        refine RL.nil (RC.back ?_)
        refine RC.done (rs := [.tmp 4]) (vs := [_]) rfl rfl ⟨rfl, trivial⟩ ?_
        -- end 3
        first | exact ⟨congrArg Value.bool hres.symm, S⟩ | exact ⟨congrArg Value.bool (by rw [Bool.eq_iff_iff, isHB_iff, isTabB_iff, hiff q1]; exact ⟨fun h => ⟨q2, q3, q4, h⟩, fun h => h.2.2.2⟩), S⟩
    ·
      have hres : isTabB A r = false := isTabB_no (fun h => by have h2 := h7; rw [((hiff q1).1 h).1] at h2; cases h2)
      refine RL.off rfl rfl ?_
      refine RL.off rfl rfl ?_
      refine RL.off rfl rfl ?_
      refine RL.off rfl rfl ?_
      refine RL.ev (.pick_f rfl rfl) rfl rfl ?_
      refine RL.ev (.move rfl) rfl rfl ?_
      refine RL.off rfl rfl ?_
      refine RL.off rfl rfl ?_
      refine RL.off rfl rfl ?_
      refine RL.ev (.pick_f rfl rfl) rfl rfl ?_
      refine RL.ev (.move rfl) rfl rfl ?_
      refine RL.off rfl rfl ?_
      refine RL.off rfl rfl ?_
      refine RL.off rfl rfl ?_
      refine RL.off rfl rfl ?_
      refine RL.off rfl rfl ?_
      refine RL.ev (.pick_f rfl rfl) rfl rfl ?_
      refine RL.ev (.assign rfl) rfl rfl ?_
      refine RL.nil (RC.back ?_)
      refine RC.done (rs := [.tmp 4]) (vs := [_]) rfl rfl ⟨rfl, trivial⟩ ?_
      -- end 4
      first | exact ⟨congrArg Value.bool hres.symm, S⟩ | exact ⟨congrArg Value.bool (by rw [Bool.eq_iff_iff, isHB_iff, isTabB_iff, hiff q1]; exact ⟨fun h => ⟨q2, q3, q4, h⟩, fun h => h.2.2.2⟩), S⟩
  ·
    have hres : isTabB A r = false := isTabB_no (fun h => by have h2 := h6; rw [aokB_yes h.1] at h2; cases h2)
    refine RL.off rfl rfl ?_
    refine RL.off rfl rfl ?_
    refine RL.ev (.pick_f rfl rfl) rfl rfl ?_
    refine RL.ev (.move rfl) rfl rfl ?_
    refine RL.off rfl rfl ?_
    refine RL.off rfl rfl ?_
    refine RL.off rfl rfl ?_
    refine RL.off rfl rfl ?_
    refine RL.ev (.pick_f rfl rfl) rfl rfl ?_
    refine RL.ev (.move rfl) rfl rfl ?_
    refine RL.off rfl rfl ?_
    refine RL.off rfl rfl ?_
    refine RL.off rfl rfl ?_
    refine RL.ev (.pick_f rfl rfl) rfl rfl ?_
    refine RL.ev (.move rfl) rfl rfl ?_
    refine RL.off rfl rfl ?_
    refine RL.off rfl rfl ?_
    refine RL.off rfl rfl ?_
    refine RL.off rfl rfl ?_
    refine RL.off rfl rfl ?_
    refine RL.ev (.pick_f rfl rfl) rfl rfl ?_
    refine RL.ev (.assign rfl) rfl rfl ?_
    refine RL.nil (RC.back ?_)
    refine RC.done (rs := [.tmp 4]) (vs := [_]) rfl rfl ⟨rfl, trivial⟩ ?_
    -- end 5
    first | exact ⟨congrArg Value.bool hres.symm, S⟩ | exact ⟨congrArg Value.bool (by rw [Bool.eq_iff_iff, isHB_iff, isTabB_iff, hiff q1]; exact ⟨fun h => ⟨q2, q3, q4, h⟩, fun h => h.2.2.2⟩), S⟩
end Go.Proofs.Ytbfjobmebkhblaa
set_option linter.unusedVariables false
set_option linter.unusedSimpArgs false
namespace Go.Proofs.Ytbfjobmebkhblaa
open Go Go.XL
def refOk (n : Nat) (r : Int) : Prop := r = 0 ∨ ∃ j : Nat, r = (j : Int) + 1 ∧ j < n
theorem refOk.u64 {n : Nat} {r : Int} (h : refOk n r) (hn : n ≤ 1000000) : U64 r := by
  rcases h with rfl | ⟨j, rfl, h⟩
  · exact zu64
  · unfold U64; omega
theorem refOk.right {n : Nat} {r : Int} (h : refOk n r) (hn : n ≤ 512) : rightR r = true := by
  rcases h with rfl | ⟨j, rfl, h⟩
  · exact (show rightR 0 = true by decide)
  · exact (place_of_at (a := j) (by omega)).2.2.2
/-- nodes that are laid -/
def GoodH (n : Nat) (l : List It) (y : Node) : Prop := ¬ y.kind = 0 ∧ (n ≤ 512 → well y = true) ∧ ((∀ z ∈ l, z.ok) → y.ok)
theorem GoodH.mono {n : Nat} {l m : List It} {y : Node} (h : GoodH n l y) (hm : ∀ z ∈ l, z ∈ m) : GoodH n m y := ⟨h.1, h.2.1, fun hz => h.2.2 fun z q => hz z (hm z q)⟩
structure LyH (ns : List Node) (at_ k : Nat) (l : List It) (ns' : List Node) (r : Int) : Prop where
  len : ns'.length = ns.length
  same : ∀ i : Nat, (i < at_ ∨ at_ + cnt k l ≤ i) → ns'[i]? = ns[i]?
  isH : ns.length ≤ 512 → ∀ A : Ar, (∀ i : Nat, at_ ≤ i → i < at_ + cnt k l → A.nodes[i]? = ns'[i]?) → IsH A k r l
  good : ∀ (i : Nat) y, at_ ≤ i → i < at_ + cnt k l → ns'[i]? = some y → GoodH ns.length l y
  ref : refOk ns.length r
/-- tables that are laid one behind the other -/
structure LyF (ns : List Node) (at_ k : Nat) (ps : List (List It)) (ns' : List Node) (ks : List Int) : Prop where
  kl : ks.length = ps.length
  len : ns'.length = ns.length
  same : ∀ i : Nat, (i < at_ ∨ at_ + (ps.map (cnt k)).sum ≤ i) → ns'[i]? = ns[i]?
  isH : ns.length ≤ 512 → ∀ A : Ar, (∀ i : Nat, at_ ≤ i → i < at_ + (ps.map (cnt k)).sum → A.nodes[i]? = ns'[i]?) → ∀ j, j < ps.length → IsH A k (ks.getD j 0) (ps.getD j [])
  good : ∀ (i : Nat) y, at_ ≤ i → i < at_ + (ps.map (cnt k)).sum → ns'[i]? = some y → GoodH ns.length ps.flatten y
  ref : ∀ z ∈ ks, refOk ns.length z
theorem LyF.nil (ns : List Node) (at_ k : Nat) : LyF ns at_ k [] ns [] :=
  ⟨rfl, rfl, fun _ _ => rfl, fun _ _ _ j h => absurd h (by simp), fun i y h1 h2 => absurd h2 (by simp; omega), fun z h => by cases h⟩
theorem getD_snoc {α : Type} {l : List α} {x d : α} {j n : Nat} (hl : l.length = n) : (j < n → (l ++ [x]).getD j d = l.getD j d) ∧ (l ++ [x]).getD n d = x := by
  subst hl
  constructor
  · intro h; rw [List.getD_eq_getElem?_getD, List.getD_eq_getElem?_getD, List.getElem?_append_left h]
  · rw [List.getD_eq_getElem?_getD, List.getElem?_append_right (Nat.le_refl _), Nat.sub_self]; rfl
theorem sum_snoc (l : List Nat) (x : Nat) : (l ++ [x]).sum = l.sum + x := by simp [List.sum_append]
theorem LyF.step {ns n1 n2 : List Node} {at_ k a1 : Nat} {ps : List (List It)} {ks : List Int} {q : List It} {r : Int} (h : LyF ns at_ k ps n1 ks) (ha : a1 = at_ + (ps.map (cnt k)).sum) (g : LyH n1 a1 k q n2 r) : LyF ns at_ k (ps ++ [q]) n2 (ks ++ [r]) := by
  subst ha
  have es : ((ps ++ [q]).map (cnt k)).sum = (ps.map (cnt k)).sum + cnt k q := by rw [List.map_append]; exact sum_snoc _ _
  have hl := h.len
  refine ⟨by rw [List.length_append, List.length_append, h.kl]; rfl, by rw [g.len, h.len], fun i hi => ?_, fun h5 A hA j hj => ?_, fun i y h1 h2 hy => ?_, fun z hz => ?_⟩
  · rw [es] at hi
    rw [g.same i (by omega), h.same i (by omega)]
  · rw [es] at hA
    rw [List.length_append] at hj
    by_cases e : j < ps.length
    · rw [(getD_snoc h.kl).1 e, (getD_snoc rfl).1 e]
      exact h.isH h5 A (fun i h1 h2 => by rw [hA i h1 (by omega), g.same i (by omega)]) j e
    · obtain rfl : j = ps.length := by simp at hj; omega
      rw [(getD_snoc (j := 0) h.kl).2, (getD_snoc (j := 0) rfl).2]
      exact g.isH (by rw [hl]; exact h5) A (fun i h1 h2 => hA i (by omega) (by omega))
  · rw [es] at h2
    by_cases e : i < at_ + (ps.map (cnt k)).sum
    · rw [g.same i (by omega)] at hy
      exact (h.good i y h1 e hy).mono fun z hz => by rw [List.flatten_append]; exact List.mem_append_left _ hz
    · have := g.good i y (by omega) (by omega) hy
      rw [hl] at this
      exact this.mono fun z hz => by rw [List.flatten_append]; exact List.mem_append_right _ (by simpa using hz)
  · rcases List.mem_append.1 hz with hz | hz
    · exact h.ref z hz
    · rw [List.mem_singleton.1 hz, ← hl]; exact g.ref
theorem ly_nil (ns : List Node) (at_ k : Nat) : LyH ns at_ k [] ns 0 :=
  ⟨rfl, fun _ _ => rfl, fun _ _ _ => isH_nil.2 rfl, fun i y h1 h2 => absurd h2 (by rw [cnt_nil]; omega), .inl rfl⟩
theorem get_placed {A : Ar} {ns : List Node} {a : Nat} {y : Node} (h5 : ns.length ≤ 512) (ha : a < ns.length) (hA : A.nodes[a]? = some y) (hk : ¬ y.kind = 0) (hg : y.gen = 0) : getA A ((a : Int) + 1) = some y := by
  have hp := place_of_at (a := a) (by omega)
  have hpp : (placeR ((a : Int) + 1)).toNat = a := by rw [hp.1]; exact Int.toNat_natCast _
  rw [getA_at (x := y) (by rw [hp.1]; omega) (by rw [hpp]; exact hA), if_neg]
  rintro (e | e)
  · exact hk e
  · exact e (hg.trans hp.2.1.symm)
theorem ly_leaf {ns : List Node} {at_ k : Nat} {x : It} (h : at_ < ns.length) : LyH ns at_ k [x] (ns.set at_ (hN 3 0 x.k x.v 0 [])) ((at_ : Int) + 1) := by
  have hc : cnt k [x] = 1 := cnt_few (by simp)
  refine ⟨List.length_set, fun i hi => ?_, fun h5 A hA => ?_, fun i y h1 h2 hy => ?_, .inr ⟨at_, rfl, h⟩⟩
  · rw [hc] at hi
    exact List.getElem?_set_ne (by omega)
  · rw [hc] at hA
    have h0 := hA at_ (Nat.le_refl _) (by omega)
    rw [List.getElem?_set_self h] at h0
    exact isH_one.2 ⟨0, get_placed h5 h h0 (show ¬ (3 : Int) = 0 by decide) rfl⟩
  · rw [hc] at h2
    obtain rfl : i = at_ := by omega
    rw [List.getElem?_set_self h] at hy
    cases hy
    refine ⟨(show ¬ (3 : Int) = 0 by decide), fun _ => rfl, fun hz => ?_⟩
    have := hz x (by simp)
    exact hN_ok (by unfold I64; omega) z64 this.1 this.2 z64 (fun k h => by cases h)
theorem getD_ref {n : Nat} {ks : List Int} (h : ∀ z ∈ ks, refOk n z) (i : Nat) : refOk n (ks.getD i 0) := by
  rw [List.getD_eq_getElem?_getD]
  cases e : ks[i]? with
  | none => exact .inl rfl
  | some z => exact h z (List.mem_of_getElem? e)
theorem ly_node {ns n1 : List Node} {at_ k k1 a1 : Nat} {ps : List (List It)} {ks : List Int} {l : List It} {kd : Int} (h : LyF ns at_ k1 ps n1 ks) (ha : a1 = at_ + (ps.map (cnt k1)).sum) (hlt : a1 < ns.length) (hns : ns.length ≤ 1000000) (hll : l.length ≤ 1000000) (hkd : 1 ≤ kd ∧ kd ≤ 100) (hc : cnt k l = (ps.map (cnt k1)).sum + 1) (hp : ∀ z ∈ ps.flatten, z ∈ l)
    (hi : ∀ A : Ar, getA A ((a1 : Int) + 1) = some (hN kd 0 0 0 l.length ks) → (∀ j, j < ps.length → IsH A k1 (ks.getD j 0) (ps.getD j [])) → IsH A k ((a1 : Int) + 1) l) : LyH ns at_ k l (n1.set a1 (hN kd 0 0 0 l.length ks)) ((a1 : Int) + 1) := by
  have hl := h.len
  refine ⟨by rw [List.length_set, hl], fun i hi => ?_, fun h5 A hA => ?_, fun i y h1 h2 hy => ?_, .inr ⟨a1, rfl, hlt⟩⟩
  · rw [hc] at hi
    rw [List.getElem?_set_ne (by omega), h.same i (by omega)]
  · rw [hc] at hA
    have h0 := hA a1 (by omega) (by omega)
    rw [List.getElem?_set_self (by omega)] at h0
    exact hi A (get_placed h5 hlt h0 (show ¬ kd = 0 by omega) rfl) (h.isH h5 A fun i h1 h2 => by rw [hA i h1 (by omega), List.getElem?_set_ne (by omega)])
  · rw [hc] at h2
    by_cases e : i = a1
    · subst e
      rw [List.getElem?_set_self (by omega)] at hy
      cases hy
      refine ⟨(show ¬ kd = 0 by omega), fun h5 => (well_iff _).2 ⟨⟨Int.le_refl 0, (show (0 : Int) ≤ 1048576 by omega), Int.le_refl 0, (show (0 : Int) ≤ 9 by omega), Int.le_refl 0, (show (0 : Int) ≤ 9 by omega)⟩, ?_⟩, fun _ => ?_⟩
      · have q := fun i => (getD_ref h.ref i).right h5
        simp only [hN, Node.kids, List.all_cons, List.all_nil, q, Bool.and_true]
      · exact hN_ok (by unfold I64; omega) z64 z64 z64 (by unfold I64; omega) (fun z hz => (h.ref z hz).u64 hns)
    · rw [List.getElem?_set_ne (fun q => e q.symm)] at hy
      exact (h.good i y h1 (by omega) hy).mono hp
def partsT (k : Nat) (l : List It) (i : Nat) : List (List It) := (List.range i).map fun j => ofL (9 - k) j l
theorem partsT_succ (k : Nat) (l : List It) (i : Nat) : partsT k l (i + 1) = partsT k l i ++ [ofL (9 - k) i l] := by unfold partsT; rw [List.range_succ, List.map_append]; rfl
theorem partsT_len (k : Nat) (l : List It) (i : Nat) : (partsT k l i).length = i := by simp [partsT]
theorem partsT_get (k : Nat) (l : List It) {i j : Nat} (h : j < i) : (partsT k l i).getD j [] = ofL (9 - k) j l := by
  unfold partsT; rw [List.getD_eq_getElem?_getD, List.getElem?_map, List.getElem?_range h]; rfl
theorem partsT_sum {k : Nat} {l : List It} (h : 2 ≤ l.length) : cnt (k + 1) l = ((partsT k l 4).map (cnt k)).sum + 1 := by
  rw [cnt_s h]; simp [partsT, List.range_succ, List.sum_append]; omega
theorem partsT_le {k : Nat} {l : List It} (i : Nat) (hi : i < 4) : ((partsT k l i).map (cnt k)).sum + cnt k (ofL (9 - k) i l) ≤ ((partsT k l 4).map (cnt k)).sum := by
  rcases (show i = 0 ∨ i = 1 ∨ i = 2 ∨ i = 3 by omega) with rfl | rfl | rfl | rfl <;> simp [partsT, List.range_succ, List.sum_append] <;> omega
theorem partsT_mem {k : Nat} {l : List It} : ∀ i, ∀ z ∈ (partsT k l i).flatten, z ∈ l := by
  intro i z hz
  obtain ⟨q, h1, h2⟩ := List.mem_flatten.1 hz
  unfold partsT at h1
  obtain ⟨j, _, rfl⟩ := List.mem_map.1 h1
  exact (ofL_mem.1 h2).1
theorem ly_trie {ns n1 : List Node} {at_ k a1 : Nat} {ks : List Int} {l : List It} (h : LyF ns at_ k (partsT k l 4) n1 ks) (ha : a1 = at_ + ((partsT k l 4).map (cnt k)).sum) (hlt : a1 < ns.length) (hns : ns.length ≤ 1000000) (hll : l.length ≤ 1000000) (hl : 2 ≤ l.length) : LyH ns at_ (k + 1) l (n1.set a1 (hN 2 0 0 0 l.length ks)) ((a1 : Int) + 1) :=
  ly_node h ha hlt hns hll ⟨by decide, by decide⟩ (partsT_sum hl) (partsT_mem 4) fun A hg hj => (isH_trie hl).2 ⟨0, ks, by rw [h.kl, partsT_len], hg, fun i hi => by
    have := hj i (by rw [partsT_len]; exact hi)
    rwa [partsT_get k l hi] at this⟩
def partsC (m : List It) (i : Nat) : List (List It) := (m.take i).map fun x => [x]
theorem partsC_succ {m : List It} {i : Nat} {x : It} (h : m[i]? = some x) : partsC m (i + 1) = partsC m i ++ [[x]] := by unfold partsC; rw [List.take_add_one, h, List.map_append]; rfl
theorem partsC_len {m : List It} {i : Nat} (h : i ≤ m.length) : (partsC m i).length = i := by simp [partsC]; omega
theorem partsC_get {m : List It} {i j : Nat} {x : It} (h : m[j]? = some x) (hj : j < i) : (partsC m i).getD j [] = [x] := by
  unfold partsC; rw [List.getD_eq_getElem?_getD, List.getElem?_map, List.getElem?_take_of_lt hj, h]; rfl
theorem partsC_sum {m : List It} {i : Nat} (h : i ≤ m.length) : ((partsC m i).map (cnt 0)).sum = i := by
  have e : (partsC m i).map (cnt 0) = List.replicate i 1 := by
    unfold partsC
    rw [List.map_map]
    apply List.ext_getElem
    · simp; omega
    · intro j h1 h2; simp [cnt_few]
  rw [e]; simp
theorem partsC_mem {m l : List It} (hp : m.Perm l) (i : Nat) : ∀ z ∈ (partsC m i).flatten, z ∈ l := by
  intro z hz
  obtain ⟨q, h1, h2⟩ := List.mem_flatten.1 hz
  unfold partsC at h1
  obtain ⟨x, hx, rfl⟩ := List.mem_map.1 h1
  rw [List.mem_singleton.1 h2]
  exact hp.mem_iff.1 (List.mem_of_mem_take hx)
theorem ly_clash {ns n1 : List Node} {at_ a1 : Nat} {ks : List Int} {l m : List It} (hp : m.Perm l) (hs : Srt m) (h9 : l.length ≤ 9) (h : LyF ns at_ 0 (partsC m l.length) n1 ks) (ha : a1 = at_ + l.length) (hlt : a1 < ns.length) (hns : ns.length ≤ 1000000) (hl : 2 ≤ l.length) : LyH ns at_ 0 l (n1.set a1 (hN 4 0 0 0 l.length ks)) ((a1 : Int) + 1) := by
  have hml := hp.length_eq
  have hsum : ((partsC m l.length).map (cnt 0)).sum = l.length := partsC_sum (by omega)
  refine ly_node h (by rw [hsum]; exact ha) hlt hns (by omega) ⟨by decide, by decide⟩ (by rw [hsum, cnt_0 hl]; omega) (partsC_mem hp _) fun A hg hj => (isH_clash hl).2 ⟨0, ks, m, hp, hs, by omega, by rw [h.kl, partsC_len (by omega)]; omega, by rw [hml]; exact hg, fun i x hx => ?_⟩
  have hi := lt_of_get hx
  have := hj i (by rw [partsC_len (by omega)]; omega)
  rw [partsC_get hx (by omega)] at this
  exact isH_one.1 this
theorem kids_put (kd g s : Int) (ks : List Int) (z : Int) {j : Nat} (hj : j = ks.length) (h : j < 9) : splice (hN kd g 0 0 s ks).cells (5 + (j : Int).toNat * 1) [u6 z] = (hN kd g 0 0 s (ks ++ [z])).cells := by
  subst hj
  rcases ks with _|⟨a, _|⟨b, _|⟨c, _|⟨d, _|⟨e, _|⟨f, _|⟨g, _|⟨i, _|⟨j, ks⟩⟩⟩⟩⟩⟩⟩⟩⟩
  all_goals first | rfl | (simp at h; omega)
structure BldH (size : Nat) (l : List It) (A : Ar) (r : Int) : Prop where
  len : A.nodes.length = size
  free : A.free.length = size - cnt 10 l
  ok : 1 ≤ size → size ≤ 512 → AOk A
  isH : size ≤ 512 → IsH A 10 r l
  nok : (∀ z ∈ l, z.ok) → ∀ y ∈ A.nodes, y.ok
  u : U64 r
theorem bld_ok {size : Nat} {l : List It} {ns : List Node} {r : Int} (h : cnt 10 l ≤ size) (hsz : size ≤ 1000000) (o : LyH (List.replicate size (bareN 0)) 0 10 l ns r) : BldH size l ⟨ns, freeB size (size - cnt 10 l)⟩ r := by
  have hrep : (List.replicate size (bareN 0)).length = size := List.length_replicate
  have hl : ns.length = size := by rw [o.len, hrep]
  have hout : ∀ (i : Nat) y, cnt 10 l ≤ i → ns[i]? = some y → y = bareN 0 := fun i y hi hy => by
    rw [o.same i (by omega)] at hy
    exact (List.mem_replicate.1 (List.mem_of_getElem? hy)).2
  have hin : ∀ (i : Nat) y, i < cnt 10 l → ns[i]? = some y → GoodH size l y := fun i y hi hy => by
    have := o.good i y (by omega) (by omega) hy
    rwa [hrep] at this
  refine ⟨hl, freeB_len _ _, fun h1 h2 => ⟨by show 1 ≤ ns.length; omega, by show ns.length ≤ 512; omega, ?_, ?_, freeB_nodup _ _, ?_, ?_, ?_⟩, fun h5 => o.isH (by rw [hrep]; exact h5) _ (fun i _ _ => rfl), ?_, (by have := o.ref; rw [hrep] at this; exact this.u64 hsz)⟩
  · show (freeB _ _).length ≤ ns.length
    rw [freeB_len]; omega
  · intro x hx; have := freeB_mem.1 hx; show 0 ≤ x ∧ x < (ns.length : Int); omega
  · intro x hx
    obtain ⟨i, hi⟩ := List.getElem?_of_mem hx
    by_cases q : i < cnt 10 l
    · exact (hin i x q hi).2.1 h2
    · rw [hout i x (by omega) hi]; decide
  · intro i x hx
    have hi := lt_of_get hx
    simp only [] at hi
    by_cases q : i < cnt 10 l
    · have := (hin i x q hx).1
      constructor
      · intro e; exact absurd e this
      · intro hm; have := freeB_mem.1 hm; omega
    · rw [hout i x (by omega) hx]
      exact ⟨fun _ => freeB_mem.2 (by omega), fun _ => rfl⟩
  · intro i x hx hm
    have hi := lt_of_get hx
    have := freeB_mem.1 hm
    simp only [] at hi
    rw [hout i x (by omega) hx]; rfl
  · intro hok y hy
    obtain ⟨i, hi⟩ := List.getElem?_of_mem hy
    by_cases q : i < cnt 10 l
    · exact (hin i y q hi).2.2 hok
    · rw [hout i y (by omega) hi]; exact bareN_ok z64
end Go.Proofs.Ytbfjobmebkhblaa
set_option linter.unusedVariables false
set_option linter.unusedSimpArgs false
namespace Go.Proofs.Ytbfjobmebkhblaa
open Go Go.XL
def tyC (bN nn cN : Nat) (at_ r : Int) : List Value := [.slice (some ⟨bN, 0, none⟩) nn cN, .slice none 0 0, .int .i64 at_, .int .u64 r]
abbrev nodeL (ns : List Node) : List Value := (ns.map Node.cells).flatten
/-- what Lay answers -/
def LayA (bN nn cN : Nat) (ns : List Node) (at_ k : Nat) (l : List It) (w : World) (v : Value) (w' : World) : Prop :=
  ∃ ns' r, v = .agg (tyC bN nn cN ((at_ + cnt k l : Nat) : Int) r).toArray ∧ LyH ns at_ k l ns' r ∧ Agr (· = bN) w w' ∧ Has w' bN (nodeL ns') 97
theorem c_layFew (bN cN nn k : Nat) (lv : Int) (ns : List Node) (at_ : Nat) (r0 : Int) (l : List It) (M : Nat → Prop) (a : Option Addr) (c m : Nat) (w : World) (hm : m = l.length) (hl : l.length ≤ 1) (hat : at_ + l.length ≤ ns.length) (hnn : ns.length = nn) (hn6 : nn ≤ 1000000) (hI : Ft M (fun u => Sl u a 2 (l.map It.cells)) w) (dN : ∀ k, M k → k ≠ bN) (hbN : Has w bN (nodeL ns) 97) :
    FC Try.prog 45 [.agg (tyC bN nn cN at_ r0).toArray, .slice a m c, .int .i64 lv] w (LayA bN nn cN ns at_ k l w) := by
  subst hm
  have hck : cnt k l = l.length := cnt_few hl
  refine FC.intro Try.func45 rfl Try.ntmps45 rfl ?_
  have G : Agr (· = bN) w w := Agr.refl _ _
  refine RC.seq ?_
  refine RC.region rfl ?_
  refine RL.box rfl rfl rfl (fun b_3 w_3 e_3 z_3 hb_3 s_3 => ?_)
  have nN__3 := hbN.ne e_3
  have d_hI_b_3 := hI.neNew e_3
  have geG_3 := agLe G e_3
  have G := G.trans s_3.agr
  have hbN := hbN.sub s_3
  have hI := hI.sub s_3
  have hb_3 : Has w_3 b_3 (tyC bN nn cN at_ r0) _ := hb_3
  refine RL.alloc ze80 rfl rfl (fun b_6 w_6 e_6 z_6 hb_6 s_6 => ?_)
  have nN__6 := hbN.ne e_6
  have n_3__6 := hb_3.ne e_6
  have d_hI_b_6 := hI.neNew e_6
  have geG_6 := agLe G e_6
  have G := G.trans s_6.agr
  have hbN := hbN.sub s_6
  have hI := hI.sub s_6
  have hb_3 := hb_3.sub s_6
  refine RL.nil (RC.back ?_)
  refine RC.seq ?_
  refine RC.region rfl ?_
  refine RL.ev (.field0 fo80_2 rfl) rfl rfl ?_
  refine RL.store sh36 rfl rfl rfl hb_3 (by exact Nat.le_of_ble_eq_true rfl) (by rfl) rfl (fun w1 z1 hb_3 a1 => ?_)
  have G := agNew G a1 geG_3
  have hbN := hbN.upd a1 nN__3
  have hI := hI.updD a1 d_hI_b_3
  have hb_6 := hb_6.upd a1 n_3__6.symm
  have hb_3 : Has w1 b_3 (tyC bN nn cN at_ 0) _ := hb_3
  refine RL.nil (RC.back ?_)
  refine RC.seq ?_
  refine RC.seq ?_
  refine RC.region rfl ?_
  refine RL.ev (.move rfl) rfl rfl ?_
  refine RL.ev (.len sl26 rfl) rfl rfl ?_
  refine RL.ev (.bin rfl rfl rfl) rfl rfl ?_
  refine RL.nil (RC.back ?_)
  refine RC.cond_dec rfl (fun h2 => ?_) (fun h2 => ?_)
  ·
    obtain rfl : l = [] := List.eq_nil_of_length_eq_zero (by have := h2; omega)
    refine RC.seq ?_
    refine RC.region rfl ?_
    refine RL.ev (.loadR (tyC bN nn cN at_ 0) sh80 rfl hb_3.row rfl) rfl rfl ?_
    refine RL.store sh80 rfl rfl rfl hb_6 (by exact Nat.le_of_ble_eq_true rfl) (by rfl) rfl (fun w3 z3 hb_6 a3 => ?_)
    have G := agNew G a3 geG_6
    have hbN := hbN.upd a3 nN__6
    have hI := hI.updD a3 d_hI_b_6
    have hb_3 := hb_3.upd a3 n_3__6
    have hb_6 : Has w3 b_6 (tyC bN nn cN at_ 0) _ := hb_6.now (by kernel_rfl)
    refine RL.nil (RC.back ?_)
    refine RC.done (rs := [.cell 6 80]) (vs := [_]) rfl rfl ⟨⟨_, rfl, .inr ⟨tyC bN nn cN at_ 0, sh80, hb_6.row, rfl⟩⟩, trivial⟩ ?_
    -- end 1
    exact ⟨ns, 0, (by rw [hck]; rfl), ly_nil _ _ _, G, hbN⟩
  ·
    have q0 : ¬ l.length = 0 := (by have := h2; omega)
    refine RC.skip (RC.back ?_)
    refine RC.seq ?_
    refine RC.seq ?_
    refine RC.region rfl ?_
    refine RL.ev (.move rfl) rfl rfl ?_
    refine RL.ev (.len sl26 rfl) rfl rfl ?_
    refine RL.ev (.bin rfl rfl rfl) rfl rfl ?_
    refine RL.nil (RC.back ?_)
    refine RC.cond_dec rfl (fun h4 => ?_) (fun h4 => ?_)
    ·
      obtain ⟨x, rfl⟩ := List.length_eq_one_iff.1 (show l.length = 1 by have := h4; omega)
      refine RC.seq ?_
      refine RC.drawD (fun k => k = bN) [15] w1.heap.size 16 rfl rfl mxo (fun w5 s6 => ?_)
      have ltD_bN := hbN.lt
      have ltD_hI := fun k hk => (hI.ge k hk).2
      have ltD_b_3 := hb_3.lt
      have ltD_b_6 := hb_6.lt
      have szD := Nat.le_refl w1.heap.size
      have G := G.trans s6.agr
      have hbN := hbN.sub s6
      have hI := hI.sub s6
      have hb_3 := hb_3.sub s6
      have hb_6 := hb_6.sub s6
      have szD := Nat.le_trans szD s6.size
      refine RD.take 0 rfl (by kernel_rfl) (by kernel_rfl) (by kernel_rfl) (fun w' s' => .field0 fo80_0 rfl) rfl rfl ?_
      refine RD.take 1 rfl (by kernel_rfl) (by kernel_rfl) (by kernel_rfl) (fun w' s' => .field0 fo34_0 rfl) rfl rfl ?_
      refine RD.take 2 rfl (by kernel_rfl) (by kernel_rfl) (by kernel_rfl) (fun w' s' => .load1 sh31 rfl ((hb_3.step s' (fun e => e.elim (fun e => nN__3.symm e) (fun e => Nat.not_le.2 ltD_b_3 e))).cell rfl)) rfl rfl ?_
      refine RD.take 3 rfl (by kernel_rfl) (by kernel_rfl) (by kernel_rfl) (fun w' s' => .field0 fo80_1 rfl) rfl rfl ?_
      refine RD.take 4 rfl (by kernel_rfl) (by kernel_rfl) (by kernel_rfl) (fun w' s' => .load1 sh3 rfl ((hb_3.step s' (fun e => e.elim (fun e => nN__3.symm e) (fun e => Nat.not_le.2 ltD_b_3 e))).cell rfl)) rfl rfl ?_
      refine RD.take 5 rfl (by kernel_rfl) (by kernel_rfl) (by kernel_rfl) (fun w' s' => .move rfl) rfl rfl ?_
      refine RD.take 6 rfl (by kernel_rfl) (by kernel_rfl) (by kernel_rfl) (fun w' s' => .indexS sl26 rfl rfl (by omega) (hI.now.is (i := 0) (by simp only [List.length_map, List.length_cons, List.length_nil]; omega))) rfl rfl ?_
      refine RD.take 7 rfl (by kernel_rfl) (by kernel_rfl) (by kernel_rfl) (fun w' s' => .fieldA fo29_0 rfl) rfl rfl ?_
      refine RD.take 8 rfl (by kernel_rfl) (by kernel_rfl) (by kernel_rfl) (fun w' s' => .load1 sh2 rfl ((hI.step s' (fun k hk e => e.elim (fun e => dN k hk e) (Nat.not_le.2 (ltD_hI k hk)))).now.cell (enc := It.cells) (j := 0) (x := x) (i := 0) rfl rfl)) rfl rfl ?_
      refine RD.take 9 rfl (by kernel_rfl) (by kernel_rfl) (by kernel_rfl) (fun w' s' => .move rfl) rfl rfl ?_
      refine RD.take 10 rfl (by kernel_rfl) (by kernel_rfl) (by kernel_rfl) (fun w' s' => .indexS sl26 rfl rfl (by omega) (hI.now.is (i := 0) (by simp only [List.length_map, List.length_cons, List.length_nil]; omega))) rfl rfl ?_
      refine RD.take 11 rfl (by kernel_rfl) (by kernel_rfl) (by kernel_rfl) (fun w' s' => .fieldA fo29_1 rfl) rfl rfl ?_
      refine RD.take 12 rfl (by kernel_rfl) (by kernel_rfl) (by kernel_rfl) (fun w' s' => .load1 sh2 rfl ((hI.step s' (fun k hk e => e.elim (fun e => dN k hk e) (Nat.not_le.2 (ltD_hI k hk)))).now.cell (enc := It.cells) (j := 1) (x := x) (i := 0) rfl rfl)) rfl rfl ?_
      refine RD.take 13 rfl (by kernel_rfl) (by kernel_rfl) (by kernel_rfl) (fun w' s' => .as (v' := .agg (hN 3 0 x.k x.v 0 []).cells.toArray) (.buildS ze97 pl97 rfl rfl) (by rfl)) rfl rfl ?_
      refine RD.take 14 rfl (by kernel_rfl) (by kernel_rfl) (by kernel_rfl) (fun w' s' => .indexO sl31 rfl rfl (by omega)) rfl rfl ?_
      refine RD.all [15] (by kernel_rfl) rfl (RDs.cons rfl ?_ (RDs.nil))
      refine RL.store sh97 rfl rfl rfl hbN (by rw [flat_len (sz := 16) _ (node_rows _), List.length_map]; show 0 + at_ * 16 + 16 ≤ _; omega) (by rfl) rfl (fun w7 z7 hbN a7 => ?_)
      have G := G.trans a7
      have hI := hI.updD a7 dN
      have hb_3 := hb_3.upd a7 nN__3.symm
      have hb_6 := hb_6.upd a7 nN__6.symm
      have szD := Nat.le_trans szD a7.size
      have hbN : Has w7 bN (nodeL (ns.set at_ (hN 3 0 x.k x.v 0 []))) 97 := by rw [nodeL, List.map_set]; exact row_set0 (sz := 16) (i := at_) (by rw [Nat.zero_add] at hbN; exact hbN) (node_rows _) (by rw [List.length_map]; omega) rfl
      refine RD.backW rfl (a7.mono fun k _ e => e ▸ (.inl (rfl))) ?_
      refine RD.done (by kernel_rfl) (RC.back ?_)
      refine RC.seq ?_
      refine RC.region rfl ?_
      refine RL.ev (.field0 fo80_1 rfl) rfl rfl ?_
      refine RL.ev (.load1 sh3 rfl (hb_3.cell rfl)) rfl rfl ?_
      refine RL.ev (.as (.bin rfl rfl rfl) (wi64 (y := ((at_ + 1 : Nat) : Int)) (by omega) (by omega))) rfl rfl ?_
      refine RL.ev (.field0 fo80_1 rfl) rfl rfl ?_
      refine RL.store sh3 rfl rfl rfl hb_3 (by exact Nat.le_of_ble_eq_true rfl) (by rfl) rfl (fun w8 z8 hb_3 a8 => ?_)
      have G := agNew G a8 geG_3
      have hbN := hbN.upd a8 nN__3
      have hI := hI.updD a8 d_hI_b_3
      have hb_6 := hb_6.upd a8 n_3__6.symm
      have hb_3 : Has w8 b_3 (tyC bN nn cN ((at_ + 1 : Nat) : Int) 0) _ := hb_3
      refine RL.nil (RC.back ?_)
      refine RC.seq ?_
      refine RC.region rfl ?_
      refine RL.ev (.field0 fo80_1 rfl) rfl rfl ?_
      refine RL.ev (.load1 sh3 rfl (hb_3.cell rfl)) rfl rfl ?_
      refine RL.ev (.as (.conv i3 i36 rfl) (wu64 (y := (at_ : Int) + 1) (by omega) (by omega))) rfl rfl ?_
      refine RL.ev (.field0 fo80_2 rfl) rfl rfl ?_
      refine RL.store sh36 rfl rfl rfl hb_3 (by exact Nat.le_of_ble_eq_true rfl) (by rfl) rfl (fun w9 z9 hb_3 a9 => ?_)
      have G := agNew G a9 geG_3
      have hbN := hbN.upd a9 nN__3
      have hI := hI.updD a9 d_hI_b_3
      have hb_6 := hb_6.upd a9 n_3__6.symm
      have hb_3 : Has w9 b_3 (tyC bN nn cN ((at_ + 1 : Nat) : Int) ((at_ : Int) + 1)) _ := hb_3
      refine RL.nil (RC.back ?_)
      refine RC.seq ?_
      refine RC.region rfl ?_
      refine RL.ev (.loadR (tyC bN nn cN ((at_ + 1 : Nat) : Int) ((at_ : Int) + 1)) sh80 rfl hb_3.row rfl) rfl rfl ?_
      refine RL.store sh80 rfl rfl rfl hb_6 (by exact Nat.le_of_ble_eq_true rfl) (by rfl) rfl (fun w10 z10 hb_6 a10 => ?_)
      have G := agNew G a10 geG_6
      have hbN := hbN.upd a10 nN__6
      have hI := hI.updD a10 d_hI_b_6
      have hb_3 := hb_3.upd a10 n_3__6
      have hb_6 : Has w10 b_6 (tyC bN nn cN ((at_ + 1 : Nat) : Int) ((at_ : Int) + 1)) _ := hb_6.now (by kernel_rfl)
      refine RL.nil (RC.back ?_)
      refine RC.done (rs := [.cell 6 80]) (vs := [_]) rfl rfl ⟨⟨_, rfl, .inr ⟨tyC bN nn cN ((at_ + 1 : Nat) : Int) ((at_ : Int) + 1), sh80, hb_6.row, rfl⟩⟩, trivial⟩ ?_
      -- end 2
      exact ⟨_, (at_ : Int) + 1, (by rw [hck]; rfl), ly_leaf (by omega), G, hbN⟩
    ·
      exact absurd (show l.length = 1 by omega) (by have := h4; omega)
theorem drop_take1 {l : List It} {n : Nat} {x : It} (h : l[n]? = some x) : (l.drop n).take 1 = [x] := by
  rw [List.take_one, List.head?_drop, h]; rfl
/-- the rounds over keys of one hash -/
structure LcS (w0 : World) (bN cN nn b3 b6 b7 : Nat) (ns : List Node) (at_ : Nat) (l ms : List It) (i : Nat) (rest : List It) (n1 : List Node) (ks : List Int) (r : Int) (a : Option Addr) (m c : Nat) (w : World) : Prop where
  hi : i ≤ l.length
  rp : rest.Perm (ms.drop i)
  F : LyF ns at_ 0 (partsC ms i) n1 ks
  o : Ows w0.heap.size w 29 2 (.slice a m c) (rest.map It.cells)
  h3 : Has w b3 (tyC bN nn cN ((at_ + i : Nat) : Int) r) 80
  h6 : Has w b6 [.slice none 0 0, .slice none 0 0, .int .i64 0, .int .u64 0] 80
  h7 : Has w b7 (hN 4 0 0 0 l.length ks).cells 97
  hN : Has w bN (nodeL n1) 97
  d : ∀ k, ob (.slice a m c) = some k → k ≠ b3 ∧ k ≠ b6 ∧ k ≠ b7 ∧ k ≠ bN
  G : Agr (· = bN) w0 w
set_option maxHeartbeats 1000000 in
theorem c_layC (bN cN nn : Nat) (ns : List Node) (at_ : Nat) (r0 : Int) (l : List It) (hap : Ap l) (M : Nat → Prop) (a : Option Addr) (c m : Nat) (w : World) (hm : m = l.length) (hl2 : 2 ≤ l.length) (hl9 : l.length ≤ 9) (hat : at_ + cnt 0 l ≤ ns.length) (hnn : ns.length = nn) (hn6 : nn ≤ 1000000) (hI : Ft M (fun u => Sl u a 2 (l.map It.cells)) w) (dN : ∀ k, M k → k ≠ bN) (hbN : Has w bN (nodeL ns) 97) :
    FC Try.prog 45 [.agg (tyC bN nn cN at_ r0).toArray, .slice a m c, .int .i64 10] w (LayA bN nn cN ns at_ 0 l w) := by
  subst hm
  have hck : cnt 0 l = 1 + l.length := cnt_0 hl2
  obtain ⟨ms, hmp, hms⟩ := srt_exists hap
  have hmpl := hmp.length_eq
  refine FC.intro Try.func45 rfl Try.ntmps45 rfl ?_
  have G : Agr (· = bN) w w := Agr.refl _ _
  refine RC.seq ?_
  refine RC.region rfl ?_
  refine RL.box rfl rfl rfl (fun b_3 w_3 e_3 z_3 hb_3 s_3 => ?_)
  have nN__3 := hbN.ne e_3
  have d_hI_b_3 := hI.neNew e_3
  have geG_3 := agLe G e_3
  have G := G.trans s_3.agr
  have hbN := hbN.sub s_3
  have hI := hI.sub s_3
  have hb_3 : Has w_3 b_3 (tyC bN nn cN at_ r0) _ := hb_3
  refine RL.alloc ze80 rfl rfl (fun b_6 w_6 e_6 z_6 hb_6 s_6 => ?_)
  have nN__6 := hbN.ne e_6
  have n_3__6 := hb_3.ne e_6
  have d_hI_b_6 := hI.neNew e_6
  have geG_6 := agLe G e_6
  have G := G.trans s_6.agr
  have hbN := hbN.sub s_6
  have hI := hI.sub s_6
  have hb_3 := hb_3.sub s_6
  refine RL.nil (RC.back ?_)
  refine RC.seq ?_
  refine RC.region rfl ?_
  refine RL.ev (.field0 fo80_2 rfl) rfl rfl ?_
  refine RL.store sh36 rfl rfl rfl hb_3 (by exact Nat.le_of_ble_eq_true rfl) (by rfl) rfl (fun w1 z1 hb_3 a1 => ?_)
  have G := agNew G a1 geG_3
  have hbN := hbN.upd a1 nN__3
  have hI := hI.updD a1 d_hI_b_3
  have hb_6 := hb_6.upd a1 n_3__6.symm
  have hb_3 : Has w1 b_3 (tyC bN nn cN at_ 0) _ := hb_3
  refine RL.nil (RC.back ?_)
  refine RC.seq ?_
  refine RC.seq ?_
  refine RC.region rfl ?_
  refine RL.ev (.move rfl) rfl rfl ?_
  refine RL.ev (.len sl26 rfl) rfl rfl ?_
  refine RL.ev (.bin rfl rfl rfl) rfl rfl ?_
  refine RL.nil (RC.back ?_)
  refine RC.cond_dec rfl (fun h2 => ?_) (fun h2 => ?_)
  ·
    exact absurd (show l.length = 0 by have := h2; omega) (by omega)
  ·
    refine RC.skip (RC.back ?_)
    refine RC.seq ?_
    refine RC.seq ?_
    refine RC.region rfl ?_
    refine RL.ev (.move rfl) rfl rfl ?_
    refine RL.ev (.len sl26 rfl) rfl rfl ?_
    refine RL.ev (.bin rfl rfl rfl) rfl rfl ?_
    refine RL.nil (RC.back ?_)
    refine RC.cond_dec rfl (fun h3 => ?_) (fun h3 => ?_)
    ·
      exact absurd (show l.length = 1 by have := h3; omega) (by omega)
    ·
      refine RC.skip (RC.back ?_)
      refine RC.seq ?_
      refine RC.region rfl ?_
      refine RL.ev (.move rfl) rfl rfl ?_
      refine RL.ev (.len sl26 rfl) rfl rfl ?_
      refine RL.ev (.as (v' := .agg (hN 2 0 0 0 l.length []).cells.toArray) (.buildS ze97 pl97 rfl rfl) (by rfl)) rfl rfl ?_
      refine RL.alloc ze97 rfl rfl (fun b_7 w_7 e_7 z_7 hb_7 s_7 => ?_)
      have nN__7 := hbN.ne e_7
      have n_3__7 := hb_3.ne e_7
      have n_6__7 := hb_6.ne e_7
      have d_hI_b_7 := hI.neNew e_7
      have geG_7 := agLe G e_7
      have G := G.trans s_7.agr
      have hbN := hbN.sub s_7
      have hI := hI.sub s_7
      have hb_3 := hb_3.sub s_7
      have hb_6 := hb_6.sub s_7
      refine RL.store sh97 rfl rfl rfl hb_7 (by exact Nat.le_of_ble_eq_true rfl) (by rfl) rfl (fun w4 z4 hb_7 a4 => ?_)
      have G := agNew G a4 geG_7
      have hbN := hbN.upd a4 nN__7
      have hI := hI.updD a4 d_hI_b_7
      have hb_3 := hb_3.upd a4 n_3__7
      have hb_6 := hb_6.upd a4 n_6__7
      refine RL.nil (RC.back ?_)
      refine RC.seq ?_
      refine RC.seq ?_
      refine RC.region rfl ?_
      refine RL.ev (.move rfl) rfl rfl ?_
      refine RL.ev (.as (v' := .bool true) (.bin rfl rfl rfl) (congrArg Value.bool (decide_eq_true (by decide)))) rfl rfl ?_
      refine RL.nil (RC.back ?_)
      refine RC.cond_t rfl ?_
      refine RC.seq ?_
      refine RC.region rfl ?_
      refine RL.ev (.field0 fo97_0 rfl) rfl rfl ?_
      refine RL.store sh3 rfl rfl rfl hb_7 (by exact Nat.le_of_ble_eq_true rfl) (by rfl) rfl (fun w5 z5 hb_7 a5 => ?_)
      have G := agNew G a5 geG_7
      have hbN := hbN.upd a5 nN__7
      have hI := hI.updD a5 d_hI_b_7
      have hb_3 := hb_3.upd a5 n_3__7
      have hb_6 := hb_6.upd a5 n_6__7
      have hb_7 : Has w5 b_7 (hN 4 0 0 0 l.length []).cells 97 := hb_7
      refine RL.nil (RC.back ?_)
      refine RC.seq ?_
      refine RC.region rfl ?_
      refine RL.buildSlice0 sl26 rfl rfl (fun b_51 w_51 e_51 z_51 hb_51 s_51 => ?_)
      have nN__51 := hbN.ne e_51
      have n_3__51 := hb_3.ne e_51
      have n_6__51 := hb_6.ne e_51
      have n_7__51 := hb_7.ne e_51
      have d_hI_b_51 := hI.neNew e_51
      have geG_51 := agLe G e_51
      have G := G.trans s_51.agr
      have hbN := hbN.sub s_51
      have hI := hI.sub s_51
      have hb_3 := hb_3.sub s_51
      have hb_6 := hb_6.sub s_51
      have hb_7 := hb_7.sub s_51
      refine RL.ev (.assign rfl) rfl rfl ?_
      refine RL.nil (RC.back ?_)
      refine RC.seq ?_
      refine RC.region rfl ?_
      refine RL.ev (.move rfl) rfl rfl ?_
      refine RL.ev (.move rfl) rfl rfl ?_
      have szG_54 := G.size
      have ltbN_54 := hbN.lt
      have ltb_3_54 := hb_3.lt
      have ltb_6_54 := hb_6.lt
      have ltb_7_54 := hb_7.lt
      have ltb_51_54 := hb_51.lt
      refine RL.append2 (base := w.heap.size) (rows := []) (news := l.map It.cells) sl26 ze29 rfl rfl rfl rfl (.inl (Ows.lit0 hb_51 (by omega))) hI.now (by (try simp only [List.length_map]); first | done | rfl) (by intro r hr; obtain ⟨x, _, rfl⟩ := List.mem_map.1 hr; rfl) (by rw [List.all_eq_true]; intro r hr; obtain ⟨x, _, rfl⟩ := List.mem_map.1 hr; rfl) (by (try simp only [List.length_map, List.length_nil, List.length_append, List.length_cons]); omega) (by (try simp only [List.length_map, List.length_nil, List.length_append, List.length_cons]); omega) (by omega) rfl rfl (fun v_54 w_54 hc_54 ho_54 ag_54 ob_54 => ?_)
      have o54 := ho_54 (.inr (Ows.lit0 hb_51 (by omega)))
      have d_o54_bN := obNe ob_54 (fun k hk e => nN__51.symm ((obLit hk).trans e)) hbN.lt
      have dd_o54_hI := obDF ob_54 (fun k hk h2 => d_hI_b_51 k h2 (obLit hk).symm) (fun k hk => (hI.ge k hk).2)
      have d_o54_b_3 := obNe ob_54 (fun k hk e => n_3__51.symm ((obLit hk).trans e)) hb_3.lt
      have d_o54_b_6 := obNe ob_54 (fun k hk e => n_6__51.symm ((obLit hk).trans e)) hb_6.lt
      have d_o54_b_7 := obNe ob_54 (fun k hk e => n_7__51.symm ((obLit hk).trans e)) hb_7.lt
      have G := agApp G ag_54 (by first | exact Nat.le_refl _ | omega)
      have hbN := hbN.step ag_54 (fun e => nN__51.symm (obLit e.1))
      have hI := hI.step ag_54 (fun k hk e => (fun k hk h2 => d_hI_b_51 k h2 (obLit hk).symm) k e.1 hk)
      have hb_3 := hb_3.step ag_54 (fun e => n_3__51.symm (obLit e.1))
      have hb_6 := hb_6.step ag_54 (fun e => n_6__51.symm (obLit e.1))
      have hb_7 := hb_7.step ag_54 (fun e => n_7__51.symm (obLit e.1))
      obtain ⟨a_54, c_54, rfl, k_54⟩ := o54.form
      rw [List.nil_append] at o54
      refine RL.ev (.assign rfl) rfl rfl ?_
      refine RL.nil (RC.back ?_)
      refine RC.seq ?_
      refine RC.region rfl ?_
      refine RL.ev (.move rfl) rfl rfl ?_
      refine RL.ev (.len sl26 rfl) rfl rfl ?_
      refine RL.ev (.move rfl) rfl rfl ?_
      refine RL.nil (RC.back ?_)
      refine RC.block ?_
      refine RC.loop (α := Nat × List It × List Node × List Int × Int × (Option Addr × Nat × Nat)) (fun x => [(3, .pointer (some ⟨b_3, 0, none⟩)), (6, .pointer (some ⟨b_6, 0, none⟩)), (7, .pointer (some ⟨b_7, 0, none⟩)), (8, .slice x.2.2.2.2.2.1 x.2.2.2.2.2.2.1 x.2.2.2.2.2.2.2), (56, .int .i64 (l.length : Int)), (57, .int .i64 (x.1 : Int))]) (fun x w6 => LcS w bN cN nn b_3 b_6 b_7 ns at_ l ms x.1 x.2.1 x.2.2.1 x.2.2.2.1 x.2.2.2.2.1 x.2.2.2.2.2.1 x.2.2.2.2.2.2.1 x.2.2.2.2.2.2.2 w6) (fun x => l.length - x.1) (0, l, ns, [], 0, a_54, _, c_54) (keep_of (by repeat (first | exact trivial | refine And.intro rfl ?_))) (⟨Nat.zero_le _, hmp.symm, LyF.nil _ _ _, o54, hb_3, hb_6, hb_7, hbN, fun k hk => ⟨d_o54_b_3 k hk, d_o54_b_6 k hk, d_o54_b_7 k hk, d_o54_bN k hk⟩, G⟩) (fun x w6 hJ => ?_)
      obtain ⟨i, rest, n1, ks, rr, ar, mr, cr⟩ := x; obtain ⟨hi, hrp, hF, o, hb_3, hb_6, hb_7, hbN, dd, G⟩ := hJ; simp only [] at hi hrp hF o hb_3 hb_7 hbN dd; obtain rfl := o.sl.2; have szB := G.size; have hrl := hrp.length_eq; rw [List.length_drop] at hrl; have dd3 : ∀ k, ob (.slice ar (rest.map It.cells).length cr) = some k → k ≠ b_3 := fun k hk => (dd k hk).1; have dd6 : ∀ k, ob (.slice ar (rest.map It.cells).length cr) = some k → k ≠ b_6 := fun k hk => (dd k hk).2.1; have dd7 : ∀ k, ob (.slice ar (rest.map It.cells).length cr) = some k → k ≠ b_7 := fun k hk => (dd k hk).2.2.1; have ddN : ∀ k, ob (.slice ar (rest.map It.cells).length cr) = some k → k ≠ bN := fun k hk => (dd k hk).2.2.2; have hks := hF.kl; rw [partsC_len (by omega)] at hks; have hnl1 := hF.len
      refine RC.seq ?_
      refine RC.region rfl ?_
      refine RL.ev (.bin rfl rfl rfl) rfl rfl ?_
      refine RL.nil (RC.back ?_)
      refine RC.seq ?_
      refine RC.cond_dec rfl (fun h7 => ?_) (fun h7 => ?_)
      ·
        have h58 := h7
        simp only [] at h58
        have hi9 : i < 9 := (by omega)
        refine RC.skip (RC.back ?_)
        refine RC.seq ?_
        refine RC.block ?_
        refine RC.seq ?_
        refine RC.region rfl ?_
        refine RL.ev (.move rfl) rfl rfl ?_
        refine RL.ev (.assign rfl) rfl rfl ?_
        refine RL.nil (RC.back ?_)
        refine RC.seq ?_
        refine RC.region rfl ?_
        refine RL.ev (.move rfl) rfl rfl ?_
        refine RL.call rfl ok63 (c_refLeast rest ar cr _ (List.length_map _) (by omega) w6 o.sl.1 (by omega)) rfl rfl ?_
        rintro _ w8 ⟨s9, n, x, rfl, hn, hle⟩
        have G := G.trans s9.agr
        have hbN := hbN.sub s9
        have o := o.sub s9
        have hb_3 := hb_3.sub s9
        have hb_6 := hb_6.sub s9
        have hb_7 := hb_7.sub s9
        have szB := Nat.le_trans szB s9.size
        obtain ⟨hmi, hrp2⟩ := least_is hms hrp hn hle
        have hnl2 := lt_of_get hn
        have hcr : rest.length ≤ cr := (by obtain ⟨_, c', e, h⟩ := o.form; cases e; rw [List.length_map] at h; exact h)
        have ht1 : (rest.take n).length = n := (by rw [List.length_take]; omega)
        have ht2 : (rest.drop (n + 1)).length = rest.length - (n + 1) := List.length_drop
        refine RL.ev (.assign rfl) rfl rfl ?_
        refine RL.nil (RC.back ?_)
        refine RC.seq ?_
        refine RC.drawD (fun k => k = b_3 ∨ k = bN) [6, 7] w8.heap.size 8 rfl rfl mxo (fun w10 s11 => ?_)
        have ltD_bN := hbN.lt
        have ltD_o := fun k hk => (o.ge k hk).2
        have ltD_b_3 := hb_3.lt
        have ltD_b_6 := hb_6.lt
        have ltD_b_7 := hb_7.lt
        have szD := Nat.le_refl w8.heap.size
        have G := G.trans s11.agr
        have hbN := hbN.sub s11
        have o := o.sub s11
        have hb_3 := hb_3.sub s11
        have hb_6 := hb_6.sub s11
        have hb_7 := hb_7.sub s11
        have szB := Nat.le_trans szB s11.size
        have szD := Nat.le_trans szD s11.size
        refine RD.takeL 0 rfl (by kernel_rfl) (by kernel_rfl) (by kernel_rfl) (by kernel_rfl) (fun w' s' => .loadR (tyC bN nn cN ((at_ + i : Nat) : Int) rr) sh80 rfl (hb_3.step s' (fun e => Nat.not_le.2 ltD_b_3 e)).row rfl) rfl rfl ?_
        refine RD.take 1 rfl (by kernel_rfl) (by kernel_rfl) (by kernel_rfl) (fun w' s' => .move rfl) rfl rfl ?_
        refine RD.take 2 rfl (by kernel_rfl) (by kernel_rfl) (by kernel_rfl) (fun w' s' => .move rfl) rfl rfl ?_
        refine RD.take 3 rfl (by kernel_rfl) (by kernel_rfl) (by kernel_rfl) (fun w' s' => .move rfl) rfl rfl ?_
        refine RD.take 4 rfl (by kernel_rfl) (by kernel_rfl) (by kernel_rfl) (fun w' s' => .as (.bin rfl rfl rfl) (wi64 (y := ((n + 1 : Nat) : Int)) (by omega) (by omega))) rfl rfl ?_
        refine RD.take 5 rfl (by kernel_rfl) (by kernel_rfl) (by kernel_rfl) (fun w' s' => .as (v' := .slice (if cr = n then ar else ar.map (·.add (n * 2))) 1 (cr - n)) (.sliceLH sl26 rfl rfl rfl (by simp only []; omega)) (by congr 1; show n + 1 - n = 1; omega)) rfl rfl ?_
        refine RD.all [6] (by kernel_rfl) rfl (RDs.cons rfl ?_ (RDs.nil))
        refine RL.call rfl ok45 (c_layFew bN cN nn 0 10 n1 (at_ + i) rr [x] (fun k => ob (.slice ar (rest.map It.cells).length cr) = some k) _ _ 1 w10 rfl (Nat.le_refl 1) (by simp only [List.length_singleton]; omega) (hnl1.trans hnn) hn6 (o.ft.imp fun u h => by have h2 := slTakeM (slDropM h.sl.1 n hcr) 1; rw [drop_take1 hn] at h2; exact h2) ddN hbN) rfl rfl ?_
        rintro vL w12 ⟨n2, r2, hv, hLy, ag1, hN1⟩
        have G := G.trans ag1
        have o := o.updD ag1 ddN
        have hb_3 := hb_3.upd ag1 nN__3.symm
        have hb_6 := hb_6.upd ag1 nN__6.symm
        have hb_7 := hb_7.upd ag1 nN__7.symm
        have szB := Nat.le_trans szB ag1.size
        have szD := Nat.le_trans szD ag1.size
        rw [show cnt 0 [x] = 1 from cnt_few (Nat.le_refl 1)] at hv
        subst hv
        have hbN := hN1
        have hF2 := hF.step (by rw [partsC_sum (by omega)]) hLy
        rw [← partsC_succ hmi] at hF2
        refine RD.backW rfl (ag1.mono fun k _ e => .inl (.inr e)) ?_
        refine RD.all [7] (by kernel_rfl) rfl (RDs.cons rfl ?_ (RDs.nil))
        refine RL.store sh80 rfl rfl rfl hb_3 (by exact Nat.le_of_ble_eq_true rfl) (by rfl) rfl (fun w14 z14 hb_3 a14 => ?_)
        have G := agNew G a14 geG_3
        have hbN := hbN.upd a14 nN__3
        have o := o.updD a14 dd3
        have hb_6 := hb_6.upd a14 n_3__6.symm
        have hb_7 := hb_7.upd a14 n_3__7.symm
        have szB := Nat.le_trans szB a14.size
        have szD := Nat.le_trans szD a14.size
        have hb_3 : Has w14 b_3 (tyC bN nn cN ((at_ + (i + 1) : Nat) : Int) r2) _ := hb_3.now (by kernel_rfl)
        refine RD.backW rfl (a14.mono fun k _ e => e ▸ (.inl (.inl rfl))) ?_
        refine RD.done (by kernel_rfl) (RC.back ?_)
        refine RC.seq ?_
        refine RC.region rfl ?_
        refine RL.ev (.move rfl) rfl rfl ?_
        refine RL.ev (.field0 fo80_2 rfl) rfl rfl ?_
        refine RL.ev (.load1 sh36 rfl (hb_3.cell rfl)) rfl rfl ?_
        refine RL.ev (.field0 fo97_5 rfl) rfl rfl ?_
        refine RL.ev (.indexArr ar95 rfl rfl (by omega)) rfl rfl ?_
        refine RL.store sh36 rfl rfl rfl hb_7 (by show 5 + i * 1 + 1 ≤ 16; omega) (by rfl) rfl (fun w15 z15 hb_7 a15 => ?_)
        have G := agNew G a15 geG_7
        have hbN := hbN.upd a15 nN__7
        have o := o.updD a15 dd7
        have hb_3 := hb_3.upd a15 n_3__7
        have hb_6 := hb_6.upd a15 n_6__7
        have szB := Nat.le_trans szB a15.size
        have hb_7 : Has w15 b_7 (hN 4 0 0 0 l.length (ks ++ [r2])).cells 97 := (by rw [← kids_put 4 0 l.length ks r2 hks.symm hi9]; exact hb_7)
        refine RL.nil (RC.back ?_)
        refine RC.seq ?_
        refine RC.region rfl ?_
        refine RL.buildSlice0 sl26 rfl rfl (fun b_74 w_74 e_74 z_74 hb_74 s_74 => ?_)
        have nN__74 := hbN.ne e_74
        have n_3__74 := hb_3.ne e_74
        have n_6__74 := hb_6.ne e_74
        have n_7__74 := hb_7.ne e_74
        have d_o_b_74 := o.neNew e_74
        have geG_74 := agLe G e_74
        have G := G.trans s_74.agr
        have hbN := hbN.sub s_74
        have o := o.sub s_74
        have hb_3 := hb_3.sub s_74
        have hb_6 := hb_6.sub s_74
        have hb_7 := hb_7.sub s_74
        have szB := Nat.le_trans szB s_74.size
        refine RL.ev (.assign rfl) rfl rfl ?_
        refine RL.nil (RC.back ?_)
        refine RC.seq ?_
        refine RC.region rfl ?_
        refine RL.ev (.move rfl) rfl rfl ?_
        refine RL.ev (.move rfl) rfl rfl ?_
        refine RL.ev (.move rfl) rfl rfl ?_
        refine RL.ev (.as (v' := .slice ar (rest.take n).length cr) (.sliceHi sl26 rfl rfl (by simp only []; omega)) (by rw [List.length_take, Nat.min_eq_left (by omega)]; rfl)) rfl rfl ?_
        have szG_79 := G.size
        have ltbN_79 := hbN.lt
        have ltb_3_79 := hb_3.lt
        have ltb_6_79 := hb_6.lt
        have ltb_7_79 := hb_7.lt
        have ltb_74_79 := hb_74.lt
        refine RL.append2 (base := w.heap.size) (rows := []) (news := (rest.take n).map It.cells) sl26 ze29 rfl rfl rfl rfl (.inl (Ows.lit0 hb_74 (by omega))) (slTakeM o.sl.1 n) (by (try simp only [List.length_map]); first | done | rfl) (by intro r hr; obtain ⟨x, _, rfl⟩ := List.mem_map.1 hr; rfl) (by rw [List.all_eq_true]; intro r hr; obtain ⟨x, _, rfl⟩ := List.mem_map.1 hr; rfl) (by (try simp only [List.length_map, List.length_nil, List.length_append, List.length_cons]); omega) (by (try simp only [List.length_map, List.length_nil, List.length_append, List.length_cons]); omega) (by omega) rfl rfl (fun v_79 w_79 hc_79 ho_79 ag_79 ob_79 => ?_)
        have o79 := ho_79 (.inr (Ows.lit0 hb_74 (by omega)))
        have d_o79_bN := obNe ob_79 (fun k hk e => nN__74.symm ((obLit hk).trans e)) hbN.lt
        have dd_o79_o := obDD ob_79 (fun k hk h2 => d_o_b_74 k h2 (obLit hk).symm) (fun k hk => (o.ge k hk).2)
        have d_o79_b_3 := obNe ob_79 (fun k hk e => n_3__74.symm ((obLit hk).trans e)) hb_3.lt
        have d_o79_b_6 := obNe ob_79 (fun k hk e => n_6__74.symm ((obLit hk).trans e)) hb_6.lt
        have d_o79_b_7 := obNe ob_79 (fun k hk e => n_7__74.symm ((obLit hk).trans e)) hb_7.lt
        have G := agApp G ag_79 (by first | exact Nat.le_refl _ | omega)
        have hbN := hbN.step ag_79 (fun e => nN__74.symm (obLit e.1))
        have o := o.step ag_79 (fun k hk e => (fun k hk h2 => d_o_b_74 k h2 (obLit hk).symm) k e.1 hk)
        have hb_3 := hb_3.step ag_79 (fun e => n_3__74.symm (obLit e.1))
        have hb_6 := hb_6.step ag_79 (fun e => n_6__74.symm (obLit e.1))
        have hb_7 := hb_7.step ag_79 (fun e => n_7__74.symm (obLit e.1))
        have szB := Nat.le_trans szB ag_79.size
        obtain ⟨a_79, c_79, rfl, k_79⟩ := o79.form
        rw [List.nil_append] at o79
        refine RL.ev (.assign rfl) rfl rfl ?_
        refine RL.nil (RC.back ?_)
        refine RC.seq ?_
        refine RC.region rfl ?_
        refine RL.ev (.move rfl) rfl rfl ?_
        refine RL.ev (.move rfl) rfl rfl ?_
        refine RL.ev (.move rfl) rfl rfl ?_
        refine RL.ev (.as (.bin rfl rfl rfl) (wi64 (y := ((n + 1 : Nat) : Int)) (by omega) (by omega))) rfl rfl ?_
        refine RL.ev (.as (v' := .slice (if cr = n + 1 then ar else ar.map (·.add ((n + 1) * 2))) (rest.drop (n + 1)).length (cr - (n + 1))) (.sliceLo sl26 rfl rfl (by simp only [List.length_map]; omega)) (by rw [List.length_drop]; first | rfl | (simp only [List.length_map]; rfl))) rfl rfl ?_
        have szG_85 := G.size
        have ltbN_85 := hbN.lt
        have ltb_3_85 := hb_3.lt
        have ltb_6_85 := hb_6.lt
        have ltb_7_85 := hb_7.lt
        refine RL.append2 (base := w.heap.size) (rows := (rest.take n).map It.cells) (news := (rest.drop (n + 1)).map It.cells) sl26 ze29 rfl rfl rfl rfl (.inl o79) (slDropM o.sl.1 (n + 1) hcr) (by (try simp only [List.length_map]); first | done | rfl) (by intro r hr; obtain ⟨x, _, rfl⟩ := List.mem_map.1 hr; rfl) (by rw [List.all_eq_true]; intro r hr; obtain ⟨x, _, rfl⟩ := List.mem_map.1 hr; rfl) (by (try simp only [List.length_map, List.length_nil, List.length_append, List.length_cons]); omega) (by (try simp only [List.length_map, List.length_nil, List.length_append, List.length_cons]); omega) (by omega) rfl rfl (fun v_85 w_85 hc_85 ho_85 ag_85 ob_85 => ?_)
        have o85 := ho_85 (.inr o79)
        have d_o85_bN := obNe ob_85 d_o79_bN hbN.lt
        have dd_o85_o := obDD ob_85 dd_o79_o (fun k hk => (o.ge k hk).2)
        have d_o85_b_3 := obNe ob_85 d_o79_b_3 hb_3.lt
        have d_o85_b_6 := obNe ob_85 d_o79_b_6 hb_6.lt
        have d_o85_b_7 := obNe ob_85 d_o79_b_7 hb_7.lt
        have G := agApp G ag_85 (by first | exact Nat.le_refl _ | omega)
        have hbN := hbN.step ag_85 (fun e => d_o79_bN _ e.1 rfl)
        have o := o.step ag_85 (fun k hk e => dd_o79_o k e.1 hk)
        have hb_3 := hb_3.step ag_85 (fun e => d_o79_b_3 _ e.1 rfl)
        have hb_6 := hb_6.step ag_85 (fun e => d_o79_b_6 _ e.1 rfl)
        have hb_7 := hb_7.step ag_85 (fun e => d_o79_b_7 _ e.1 rfl)
        have szB := Nat.le_trans szB ag_85.size
        obtain ⟨a_85, c_85, rfl, k_85⟩ := o85.form
        refine RL.ev (.assign rfl) rfl rfl ?_
        refine RL.nil (RC.back ?_)
        refine RC.region rfl ?_
        refine RL.ev (.move rfl) rfl rfl ?_
        refine RL.ev (.assign rfl) rfl rfl ?_
        refine RL.nil (RC.back ?_)
        refine RC.region rfl ?_
        refine RL.ev (.as (.bin rfl rfl rfl) (wi64 (y := ((i + 1 : Nat) : Int)) (by simp only []; omega) (by omega))) rfl rfl ?_
        refine RL.ev (.move rfl) rfl rfl ?_
        exact RL.nil (fun a ka => ⟨(i + 1, rest.take n ++ rest.drop (n + 1), n2, ks ++ [r2], r2, a_85, _, c_85), ⟨by simp only []; omega, hrp2, hF2, by show Ows _ _ _ _ _ ((rest.take n ++ rest.drop (n + 1)).map It.cells); rw [List.map_append]; exact o85, hb_3, hb_6, hb_7, hbN, fun k hk => ⟨d_o85_b_3 k hk, d_o85_b_6 k hk, d_o85_b_7 k hk, d_o85_bN k hk⟩, G⟩, by simp only []; omega, ka.keep (keep_of (by repeat (first | exact trivial | refine And.intro rfl ?_)))⟩)
      ·
        have h58 := h7
        simp only [] at h58
        obtain rfl : i = l.length := (by omega)
        refine RC.exit rfl (RC.back ?_)
        refine RC.seq ?_
        refine RC.region rfl ?_
        refine RL.ev (.field0 fo80_0 rfl) rfl rfl ?_
        refine RL.ev (.field0 fo34_0 rfl) rfl rfl ?_
        refine RL.ev (.load1 sh31 rfl (hb_3.cell rfl)) rfl rfl ?_
        refine RL.ev (.field0 fo80_1 rfl) rfl rfl ?_
        refine RL.ev (.load1 sh3 rfl (hb_3.cell rfl)) rfl rfl ?_
        refine RL.ev (.loadR ((hN 4 0 0 0 l.length ks).cells) sh97 rfl hb_7.row rfl) rfl rfl ?_
        refine RL.ev (.indexO sl31 rfl rfl (by omega)) rfl rfl ?_
        refine RL.store sh97 rfl rfl rfl hbN (by rw [flat_len (sz := 16) _ (node_rows _), List.length_map]; show 0 + (at_ + l.length) * 16 + 16 ≤ _; omega) (by rfl) rfl (fun w16 z16 hbN a16 => ?_)
        have G := G.trans a16
        have o := o.updD a16 ddN
        have hb_3 := hb_3.upd a16 nN__3.symm
        have hb_6 := hb_6.upd a16 nN__6.symm
        have hb_7 := hb_7.upd a16 nN__7.symm
        have szB := Nat.le_trans szB a16.size
        have hbN : Has w16 bN (nodeL (n1.set (at_ + l.length) (hN 4 0 0 0 l.length ks))) 97 := by rw [nodeL, List.map_set]; exact row_set0 (sz := 16) (i := at_ + l.length) (by rw [Nat.zero_add] at hbN; exact hbN) (node_rows _) (by rw [List.length_map]; omega) rfl
        refine RL.nil (RC.back ?_)
        refine RC.seq ?_
        refine RC.region rfl ?_
        refine RL.ev (.field0 fo80_1 rfl) rfl rfl ?_
        refine RL.ev (.load1 sh3 rfl (hb_3.cell rfl)) rfl rfl ?_
        refine RL.ev (.as (.bin rfl rfl rfl) (wi64 (y := ((at_ + l.length + 1 : Nat) : Int)) (by omega) (by omega))) rfl rfl ?_
        refine RL.ev (.field0 fo80_1 rfl) rfl rfl ?_
        refine RL.store sh3 rfl rfl rfl hb_3 (by exact Nat.le_of_ble_eq_true rfl) (by rfl) rfl (fun w17 z17 hb_3 a17 => ?_)
        have G := agNew G a17 geG_3
        have hbN := hbN.upd a17 nN__3
        have o := o.updD a17 dd3
        have hb_6 := hb_6.upd a17 n_3__6.symm
        have hb_7 := hb_7.upd a17 n_3__7.symm
        have szB := Nat.le_trans szB a17.size
        have hb_3 : Has w17 b_3 (tyC bN nn cN ((at_ + l.length + 1 : Nat) : Int) rr) _ := hb_3
        refine RL.nil (RC.back ?_)
        refine RC.seq ?_
        refine RC.region rfl ?_
        refine RL.ev (.field0 fo80_1 rfl) rfl rfl ?_
        refine RL.ev (.load1 sh3 rfl (hb_3.cell rfl)) rfl rfl ?_
        refine RL.ev (.as (.conv i3 i36 rfl) (wu64 (y := ((at_ + l.length : Nat) : Int) + 1) (by omega) (by omega))) rfl rfl ?_
        refine RL.ev (.field0 fo80_2 rfl) rfl rfl ?_
        refine RL.store sh36 rfl rfl rfl hb_3 (by exact Nat.le_of_ble_eq_true rfl) (by rfl) rfl (fun w18 z18 hb_3 a18 => ?_)
        have G := agNew G a18 geG_3
        have hbN := hbN.upd a18 nN__3
        have o := o.updD a18 dd3
        have hb_6 := hb_6.upd a18 n_3__6.symm
        have hb_7 := hb_7.upd a18 n_3__7.symm
        have szB := Nat.le_trans szB a18.size
        have hb_3 : Has w18 b_3 (tyC bN nn cN ((at_ + l.length + 1 : Nat) : Int) (((at_ + l.length : Nat) : Int) + 1)) _ := hb_3
        refine RL.nil (RC.back ?_)
        refine RC.seq ?_
        refine RC.region rfl ?_
        refine RL.ev (.loadR (tyC bN nn cN ((at_ + l.length + 1 : Nat) : Int) (((at_ + l.length : Nat) : Int) + 1)) sh80 rfl hb_3.row rfl) rfl rfl ?_
        refine RL.store sh80 rfl rfl rfl hb_6 (by exact Nat.le_of_ble_eq_true rfl) (by rfl) rfl (fun w19 z19 hb_6 a19 => ?_)
        have G := agNew G a19 geG_6
        have hbN := hbN.upd a19 nN__6
        have o := o.updD a19 dd6
        have hb_3 := hb_3.upd a19 n_3__6
        have hb_7 := hb_7.upd a19 n_6__7.symm
        have szB := Nat.le_trans szB a19.size
        have hb_6 : Has w19 b_6 (tyC bN nn cN ((at_ + l.length + 1 : Nat) : Int) (((at_ + l.length : Nat) : Int) + 1)) _ := hb_6.now (by kernel_rfl)
        refine RL.nil (RC.back ?_)
        refine RC.done (rs := [.cell 6 80]) (vs := [_]) rfl rfl ⟨⟨_, rfl, .inr ⟨tyC bN nn cN ((at_ + l.length + 1 : Nat) : Int) (((at_ + l.length : Nat) : Int) + 1), sh80, hb_6.row, rfl⟩⟩, trivial⟩ ?_
        -- end 1
        exact ⟨_, ((at_ + l.length : Nat) : Int) + 1, (by rw [hck, show at_ + (1 + l.length) = at_ + l.length + 1 by omega]; rfl), ly_clash hmp hms hl9 hF rfl (by omega) (by omega) hl2, G, hbN⟩
/-- no hash has too many keys -/
def FitH : Nat → List It → Prop
  | 0, l => l.length ≤ 9
  | k + 1, l => ∀ i, i < 4 → FitH k (ofL (9 - k) i l)
theorem hash_full (key : Int) : hashOf key % 4 ^ 10 = hashOf key := Nat.mod_eq_of_lt (by unfold hashOf; exact Nat.mod_lt _ (by decide))
theorem fit_of : ∀ {k d : Nat} {l : List It}, k ≤ 10 → Fam (10 - k) d l → (∀ x ∈ l, shL x.k l ≤ 9) → FitH k l
  | 0, d, l, _, hf, h => by
    rcases l with _ | ⟨x, l⟩
    · exact Nat.zero_le _
    · have h1 := h x (by simp)
      have e : shL x.k (x :: l) = (x :: l).length := by
        unfold shL
        rw [List.filter_eq_self.2]
        intro y hy
        have e1 := hf y hy
        have e2 := hf x (by simp)
        rw [hash_full] at e1 e2
        simp [e1, e2]
      rw [e] at h1
      exact h1
  | k + 1, d, l, hk, hf, h => fun i hi => by
    have h1 : 10 - (k + 1) = 9 - k := by omega
    rw [h1] at hf
    have h2 := hf.of (i := i)
    rw [show 9 - k + 1 = 10 - k by omega] at h2
    refine fit_of (by omega) h2 fun x hx => Nat.le_trans ?_ (h x (ofL_mem.1 hx).1)
    unfold shL
    exact (List.Sublist.filter _ List.filter_sublist).length_le
theorem sumT_succ (k : Nat) (l : List It) (i : Nat) : ((partsT k l (i + 1)).map (cnt k)).sum = ((partsT k l i).map (cnt k)).sum + cnt k (ofL (9 - k) i l) := by
  rw [partsT_succ, List.map_append]; exact sum_snoc _ _
/-- the rounds over digits -/
structure LtS (w0 : World) (bN cN nn b3 b6 b7 : Nat) (ns : List Node) (at_ k : Nat) (l : List It) (M : Nat → Prop) (a : Option Addr) (i : Nat) (n1 : List Node) (ks : List Int) (r : Int) (w : World) : Prop where
  hi : i ≤ 4
  F : LyF ns at_ k (partsT k l i) n1 ks
  h3 : Has w b3 (tyC bN nn cN ((at_ + ((partsT k l i).map (cnt k)).sum : Nat) : Int) r) 80
  h6 : Has w b6 [.slice none 0 0, .slice none 0 0, .int .i64 0, .int .u64 0] 80
  h7 : Has w b7 (hN 2 0 0 0 l.length ks).cells 97
  hN : Has w bN (nodeL n1) 97
  hI : Ft M (fun u => Sl u a 2 (l.map It.cells)) w
  G : Agr (· = bN) w0 w
set_option maxHeartbeats 1000000 in
theorem c_layT (bN cN nn k lv : Nat) (hk : k ≤ 9) (hlv : lv = 9 - k) (hn6 : nn ≤ 1000000)
    (ih : ∀ (ns : List Node) (at_ : Nat) (r0 : Int) (l : List It) (M : Nat → Prop) (a : Option Addr) (c m : Nat) (w : World), Ap l → FitH k l → m = l.length → l.length ≤ 1000000 → at_ + cnt k l ≤ ns.length → ns.length = nn → Ft M (fun u => Sl u a 2 (l.map It.cells)) w → (∀ k, M k → k ≠ bN) → Has w bN (nodeL ns) 97 → FC Try.prog 45 [.agg (tyC bN nn cN at_ r0).toArray, .slice a m c, .int .i64 ((lv + 1 : Nat) : Int)] w (LayA bN nn cN ns at_ k l w))
    (ns : List Node) (at_ : Nat) (r0 : Int) (l : List It) (hap : Ap l) (hfit : FitH (k + 1) l) (M : Nat → Prop) (a : Option Addr) (c m : Nat) (w : World) (hm : m = l.length) (hl2 : 2 ≤ l.length) (hl6 : l.length ≤ 1000000) (hat : at_ + cnt (k + 1) l ≤ ns.length) (hnn : ns.length = nn) (hI : Ft M (fun u => Sl u a 2 (l.map It.cells)) w) (dN : ∀ k, M k → k ≠ bN) (hbN : Has w bN (nodeL ns) 97) :
    FC Try.prog 45 [.agg (tyC bN nn cN at_ r0).toArray, .slice a m c, .int .i64 (lv : Int)] w (LayA bN nn cN ns at_ (k + 1) l w) := by
  subst hm
  have hck := partsT_sum (k := k) hl2
  have hple := fun i hi => partsT_le (k := k) (l := l) i hi
  refine FC.intro Try.func45 rfl Try.ntmps45 rfl ?_
  have G : Agr (· = bN) w w := Agr.refl _ _
  refine RC.seq ?_
  refine RC.region rfl ?_
  refine RL.box rfl rfl rfl (fun b_3 w_3 e_3 z_3 hb_3 s_3 => ?_)
  have nN__3 := hbN.ne e_3
  have d_hI_b_3 := hI.neNew e_3
  have geG_3 := agLe G e_3
  have G := G.trans s_3.agr
  have hbN := hbN.sub s_3
  have hI := hI.sub s_3
  have hb_3 : Has w_3 b_3 (tyC bN nn cN at_ r0) _ := hb_3
  refine RL.alloc ze80 rfl rfl (fun b_6 w_6 e_6 z_6 hb_6 s_6 => ?_)
  have nN__6 := hbN.ne e_6
  have n_3__6 := hb_3.ne e_6
  have d_hI_b_6 := hI.neNew e_6
  have geG_6 := agLe G e_6
  have G := G.trans s_6.agr
  have hbN := hbN.sub s_6
  have hI := hI.sub s_6
  have hb_3 := hb_3.sub s_6
  refine RL.nil (RC.back ?_)
  refine RC.seq ?_
  refine RC.region rfl ?_
  refine RL.ev (.field0 fo80_2 rfl) rfl rfl ?_
  refine RL.store sh36 rfl rfl rfl hb_3 (by exact Nat.le_of_ble_eq_true rfl) (by rfl) rfl (fun w1 z1 hb_3 a1 => ?_)
  have G := agNew G a1 geG_3
  have hbN := hbN.upd a1 nN__3
  have hI := hI.updD a1 d_hI_b_3
  have hb_6 := hb_6.upd a1 n_3__6.symm
  have hb_3 : Has w1 b_3 (tyC bN nn cN at_ 0) _ := hb_3
  refine RL.nil (RC.back ?_)
  refine RC.seq ?_
  refine RC.seq ?_
  refine RC.region rfl ?_
  refine RL.ev (.move rfl) rfl rfl ?_
  refine RL.ev (.len sl26 rfl) rfl rfl ?_
  refine RL.ev (.bin rfl rfl rfl) rfl rfl ?_
  refine RL.nil (RC.back ?_)
  refine RC.cond_dec rfl (fun h2 => ?_) (fun h2 => ?_)
  ·
    exact absurd (show l.length = 0 by have := h2; omega) (by omega)
  ·
    refine RC.skip (RC.back ?_)
    refine RC.seq ?_
    refine RC.seq ?_
    refine RC.region rfl ?_
    refine RL.ev (.move rfl) rfl rfl ?_
    refine RL.ev (.len sl26 rfl) rfl rfl ?_
    refine RL.ev (.bin rfl rfl rfl) rfl rfl ?_
    refine RL.nil (RC.back ?_)
    refine RC.cond_dec rfl (fun h3 => ?_) (fun h3 => ?_)
    ·
      exact absurd (show l.length = 1 by have := h3; omega) (by omega)
    ·
      refine RC.skip (RC.back ?_)
      refine RC.seq ?_
      refine RC.region rfl ?_
      refine RL.ev (.move rfl) rfl rfl ?_
      refine RL.ev (.len sl26 rfl) rfl rfl ?_
      refine RL.ev (.as (v' := .agg (hN 2 0 0 0 l.length []).cells.toArray) (.buildS ze97 pl97 rfl rfl) (by rfl)) rfl rfl ?_
      refine RL.alloc ze97 rfl rfl (fun b_7 w_7 e_7 z_7 hb_7 s_7 => ?_)
      have nN__7 := hbN.ne e_7
      have n_3__7 := hb_3.ne e_7
      have n_6__7 := hb_6.ne e_7
      have d_hI_b_7 := hI.neNew e_7
      have geG_7 := agLe G e_7
      have G := G.trans s_7.agr
      have hbN := hbN.sub s_7
      have hI := hI.sub s_7
      have hb_3 := hb_3.sub s_7
      have hb_6 := hb_6.sub s_7
      refine RL.store sh97 rfl rfl rfl hb_7 (by exact Nat.le_of_ble_eq_true rfl) (by rfl) rfl (fun w4 z4 hb_7 a4 => ?_)
      have G := agNew G a4 geG_7
      have hbN := hbN.upd a4 nN__7
      have hI := hI.updD a4 d_hI_b_7
      have hb_3 := hb_3.upd a4 n_3__7
      have hb_6 := hb_6.upd a4 n_6__7
      refine RL.nil (RC.back ?_)
      refine RC.seq ?_
      refine RC.seq ?_
      refine RC.region rfl ?_
      refine RL.ev (.move rfl) rfl rfl ?_
      refine RL.ev (.as (v' := .bool false) (.bin rfl rfl rfl) (congrArg Value.bool (decide_eq_false (by omega)))) rfl rfl ?_
      refine RL.nil (RC.back ?_)
      refine RC.cond_f rfl ?_
      refine RC.seq ?_
      refine RC.region rfl ?_
      refine RL.ev (.assign rfl) rfl rfl ?_
      refine RL.nil (RC.back ?_)
      refine RC.block ?_
      refine RC.loop (α := Nat × List Node × List Int × Int) (fun x => [(1, .slice a l.length c), (2, .int .i64 (lv : Int)), (3, .pointer (some ⟨b_3, 0, none⟩)), (6, .pointer (some ⟨b_6, 0, none⟩)), (7, .pointer (some ⟨b_7, 0, none⟩)), (12, .int .i64 (x.1 : Int))]) (fun x w5 => LtS w bN cN nn b_3 b_6 b_7 ns at_ k l M a x.1 x.2.1 x.2.2.1 x.2.2.2 w5) (fun x => 4 - x.1) (0, ns, [], 0) (keep_of (by repeat (first | exact trivial | refine And.intro rfl ?_))) (⟨Nat.zero_le _, LyF.nil _ _ _, hb_3, hb_6, hb_7, hbN, hI, G⟩) (fun x w5 hJ => ?_)
      obtain ⟨i, n1, ks, rr⟩ := x; obtain ⟨hi, hF, hb_3, hb_6, hb_7, hbN, hI, G⟩ := hJ; simp only [] at hi hF hb_3 hb_7 hbN; have hks := hF.kl; rw [partsT_len] at hks; have hnl1 := hF.len
      refine RC.seq ?_
      refine RC.seq ?_
      refine RC.region rfl ?_
      refine RL.ev (.move rfl) rfl rfl ?_
      refine RL.ev (.bin rfl rfl rfl) rfl rfl ?_
      refine RL.nil (RC.back ?_)
      refine RC.cond_dec rfl (fun h6 => ?_) (fun h6 => ?_)
      ·
        have h89 := h6
        simp only [] at h89
        have hi4 : i < 4 := (by omega)
        have hpl := hple i hi4
        refine RC.skip (RC.back ?_)
        refine RC.seq ?_
        refine RC.block ?_
        refine RC.seq ?_
        refine RC.drawD (fun k => k = b_3 ∨ k = bN) [7, 8] w5.heap.size 9 rfl rfl mxo (fun w7 s8 => ?_)
        have ltD_bN := hbN.lt
        have ltD_hI := fun k hk => (hI.ge k hk).2
        have ltD_b_3 := hb_3.lt
        have ltD_b_6 := hb_6.lt
        have ltD_b_7 := hb_7.lt
        have szD := Nat.le_refl w5.heap.size
        have G := G.trans s8.agr
        have hbN := hbN.sub s8
        have hI := hI.sub s8
        have hb_3 := hb_3.sub s8
        have hb_6 := hb_6.sub s8
        have hb_7 := hb_7.sub s8
        have szD := Nat.le_trans szD s8.size
        refine RD.takeL 0 rfl (by kernel_rfl) (by kernel_rfl) (by kernel_rfl) (by kernel_rfl) (fun w' s' => .loadR (tyC bN nn cN ((at_ + ((partsT k l i).map (cnt k)).sum : Nat) : Int) rr) sh80 rfl (hb_3.step s' (fun e => Nat.not_le.2 ltD_b_3 e)).row rfl) rfl rfl ?_
        refine RD.take 1 rfl (by kernel_rfl) (by kernel_rfl) (by kernel_rfl) (fun w' s' => .move rfl) rfl rfl ?_
        refine RD.take 2 rfl (by kernel_rfl) (by kernel_rfl) (by kernel_rfl) (fun w' s' => .move rfl) rfl rfl ?_
        refine RD.take 3 rfl (by kernel_rfl) (by kernel_rfl) (by kernel_rfl) (fun w' s' => .move rfl) rfl rfl ?_
        have ltw := hbN.lt
        refine RD.take 5 rfl (by kernel_rfl) (by kernel_rfl) (by kernel_rfl) (fun w' s' => .move rfl) rfl rfl ?_
        refine RD.take 6 rfl (by kernel_rfl) (by kernel_rfl) (by kernel_rfl) (fun w' s' => .as (.bin rfl rfl rfl) (wi64 (y := ((lv + 1 : Nat) : Int)) (by omega) (by omega))) rfl rfl ?_
        refine RD.all [4] (by kernel_rfl) rfl (RDs.cons rfl ?_ (RDs.nil))
        refine RL.call rfl ok62 (c_refOf9 l a c l.length rfl lv i (by omega) w7 hI.now hl6) rfl rfl ?_
        rintro _ w9 ⟨a1, c1, rfl, o1, s10⟩
        have G := G.trans s10.agr
        have hbN := hbN.sub s10
        have hI := hI.sub s10
        have hb_3 := hb_3.sub s10
        have hb_6 := hb_6.sub s10
        have hb_7 := hb_7.sub s10
        have szD := Nat.le_trans szD s10.size
        refine RD.back s10.agr ?_
        refine RD.all [7] (by kernel_rfl) rfl (RDs.cons rfl ?_ (RDs.nil))
        refine RL.call rfl ok45 (ih n1 (at_ + ((partsT k l i).map (cnt k)).sum) rr (ofL lv i l) _ a1 c1 _ w9 (hap.of _ _) (by rw [hlv]; exact hfit i hi4) (List.length_map _) (Nat.le_trans (ofL_len _ _ _) hl6) (by rw [hlv]; omega) (hnl1.trans hnn) (o1.ft.imp fun u h => h.sl.1) (owNw o1 ltw) hbN) rfl rfl ?_
        rintro vL w11 ⟨n2, r2, hv, hLy, ag1, hN1⟩
        have G := G.trans ag1
        have hI := hI.updD ag1 dN
        have hb_3 := hb_3.upd ag1 nN__3.symm
        have hb_6 := hb_6.upd ag1 nN__6.symm
        have hb_7 := hb_7.upd ag1 nN__7.symm
        have szD := Nat.le_trans szD ag1.size
        rw [hlv] at hv hLy
        rw [Nat.add_assoc, ← sumT_succ] at hv
        subst hv
        have hbN := hN1
        have hF2 := hF.step rfl hLy
        rw [← partsT_succ] at hF2
        refine RD.backW rfl (ag1.mono fun k _ e => .inl (.inr e)) ?_
        refine RD.all [8] (by kernel_rfl) rfl (RDs.cons rfl ?_ (RDs.nil))
        refine RL.store sh80 rfl rfl rfl hb_3 (by exact Nat.le_of_ble_eq_true rfl) (by rfl) rfl (fun w13 z13 hb_3 a13 => ?_)
        have G := agNew G a13 geG_3
        have hbN := hbN.upd a13 nN__3
        have hI := hI.updD a13 d_hI_b_3
        have hb_6 := hb_6.upd a13 n_3__6.symm
        have hb_7 := hb_7.upd a13 n_3__7.symm
        have szD := Nat.le_trans szD a13.size
        have hb_3 : Has w13 b_3 (tyC bN nn cN ((at_ + ((partsT k l (i + 1)).map (cnt k)).sum : Nat) : Int) r2) _ := hb_3.now (by kernel_rfl)
        refine RD.backW rfl (a13.mono fun k _ e => e ▸ (.inl (.inl rfl))) ?_
        refine RD.done (by kernel_rfl) (RC.back ?_)
        refine RC.region rfl ?_
        refine RL.ev (.move rfl) rfl rfl ?_
        refine RL.ev (.field0 fo80_2 rfl) rfl rfl ?_
        refine RL.ev (.load1 sh36 rfl (hb_3.cell rfl)) rfl rfl ?_
        refine RL.ev (.field0 fo97_5 rfl) rfl rfl ?_
        refine RL.ev (.indexArr ar95 rfl rfl (by omega)) rfl rfl ?_
        refine RL.store sh36 rfl rfl rfl hb_7 (by show 5 + i * 1 + 1 ≤ 16; omega) (by rfl) rfl (fun w14 z14 hb_7 a14 => ?_)
        have G := agNew G a14 geG_7
        have hbN := hbN.upd a14 nN__7
        have hI := hI.updD a14 d_hI_b_7
        have hb_3 := hb_3.upd a14 n_3__7
        have hb_6 := hb_6.upd a14 n_6__7
        have hb_7 : Has w14 b_7 (hN 2 0 0 0 l.length (ks ++ [r2])).cells 97 := (by rw [← kids_put 2 0 l.length ks r2 hks.symm (by omega)]; exact hb_7)
        refine RL.nil (RC.back ?_)
        refine RC.region rfl ?_
        refine RL.ev (.move rfl) rfl rfl ?_
        refine RL.ev (.as (.bin rfl rfl rfl) (wi64 (y := ((i + 1 : Nat) : Int)) (by simp only []; omega) (by omega))) rfl rfl ?_
        refine RL.ev (.assign rfl) rfl rfl ?_
        exact RL.nil (fun a ka => ⟨(i + 1, n2, ks ++ [r2], r2), ⟨by simp only []; omega, hF2, hb_3, hb_6, hb_7, hbN, hI, G⟩, by simp only []; omega, ka.keep (keep_of (by repeat (first | exact trivial | refine And.intro rfl ?_)))⟩)
      ·
        have h89 := h6
        simp only [] at h89
        obtain rfl : i = 4 := (by omega)
        refine RC.exit rfl (RC.back ?_)
        refine RC.seq ?_
        refine RC.region rfl ?_
        refine RL.ev (.field0 fo80_0 rfl) rfl rfl ?_
        refine RL.ev (.field0 fo34_0 rfl) rfl rfl ?_
        refine RL.ev (.load1 sh31 rfl (hb_3.cell rfl)) rfl rfl ?_
        refine RL.ev (.field0 fo80_1 rfl) rfl rfl ?_
        refine RL.ev (.load1 sh3 rfl (hb_3.cell rfl)) rfl rfl ?_
        refine RL.ev (.loadR ((hN 2 0 0 0 l.length ks).cells) sh97 rfl hb_7.row rfl) rfl rfl ?_
        refine RL.ev (.indexO sl31 rfl rfl (by omega)) rfl rfl ?_
        refine RL.store sh97 rfl rfl rfl hbN (by rw [flat_len (sz := 16) _ (node_rows _), List.length_map]; show 0 + (at_ + ((partsT k l 4).map (cnt k)).sum) * 16 + 16 ≤ _; omega) (by rfl) rfl (fun w15 z15 hbN a15 => ?_)
        have G := G.trans a15
        have hI := hI.updD a15 dN
        have hb_3 := hb_3.upd a15 nN__3.symm
        have hb_6 := hb_6.upd a15 nN__6.symm
        have hb_7 := hb_7.upd a15 nN__7.symm
        have hbN : Has w15 bN (nodeL (n1.set (at_ + ((partsT k l 4).map (cnt k)).sum) (hN 2 0 0 0 l.length ks))) 97 := by rw [nodeL, List.map_set]; exact row_set0 (sz := 16) (i := at_ + ((partsT k l 4).map (cnt k)).sum) (by rw [Nat.zero_add] at hbN; exact hbN) (node_rows _) (by rw [List.length_map]; omega) rfl
        refine RL.nil (RC.back ?_)
        refine RC.seq ?_
        refine RC.region rfl ?_
        refine RL.ev (.field0 fo80_1 rfl) rfl rfl ?_
        refine RL.ev (.load1 sh3 rfl (hb_3.cell rfl)) rfl rfl ?_
        refine RL.ev (.as (.bin rfl rfl rfl) (wi64 (y := ((at_ + ((partsT k l 4).map (cnt k)).sum + 1 : Nat) : Int)) (by omega) (by omega))) rfl rfl ?_
        refine RL.ev (.field0 fo80_1 rfl) rfl rfl ?_
        refine RL.store sh3 rfl rfl rfl hb_3 (by exact Nat.le_of_ble_eq_true rfl) (by rfl) rfl (fun w16 z16 hb_3 a16 => ?_)
        have G := agNew G a16 geG_3
        have hbN := hbN.upd a16 nN__3
        have hI := hI.updD a16 d_hI_b_3
        have hb_6 := hb_6.upd a16 n_3__6.symm
        have hb_7 := hb_7.upd a16 n_3__7.symm
        have hb_3 : Has w16 b_3 (tyC bN nn cN ((at_ + ((partsT k l 4).map (cnt k)).sum + 1 : Nat) : Int) rr) _ := hb_3
        refine RL.nil (RC.back ?_)
        refine RC.seq ?_
        refine RC.region rfl ?_
        refine RL.ev (.field0 fo80_1 rfl) rfl rfl ?_
        refine RL.ev (.load1 sh3 rfl (hb_3.cell rfl)) rfl rfl ?_
        refine RL.ev (.as (.conv i3 i36 rfl) (wu64 (y := ((at_ + ((partsT k l 4).map (cnt k)).sum : Nat) : Int) + 1) (by omega) (by omega))) rfl rfl ?_
        refine RL.ev (.field0 fo80_2 rfl) rfl rfl ?_
        refine RL.store sh36 rfl rfl rfl hb_3 (by exact Nat.le_of_ble_eq_true rfl) (by rfl) rfl (fun w17 z17 hb_3 a17 => ?_)
        have G := agNew G a17 geG_3
        have hbN := hbN.upd a17 nN__3
        have hI := hI.updD a17 d_hI_b_3
        have hb_6 := hb_6.upd a17 n_3__6.symm
        have hb_7 := hb_7.upd a17 n_3__7.symm
        have hb_3 : Has w17 b_3 (tyC bN nn cN ((at_ + ((partsT k l 4).map (cnt k)).sum + 1 : Nat) : Int) (((at_ + ((partsT k l 4).map (cnt k)).sum : Nat) : Int) + 1)) _ := hb_3
        refine RL.nil (RC.back ?_)
        refine RC.seq ?_
        refine RC.region rfl ?_
        refine RL.ev (.loadR (tyC bN nn cN ((at_ + ((partsT k l 4).map (cnt k)).sum + 1 : Nat) : Int) (((at_ + ((partsT k l 4).map (cnt k)).sum : Nat) : Int) + 1)) sh80 rfl hb_3.row rfl) rfl rfl ?_
        refine RL.store sh80 rfl rfl rfl hb_6 (by exact Nat.le_of_ble_eq_true rfl) (by rfl) rfl (fun w18 z18 hb_6 a18 => ?_)
        have G := agNew G a18 geG_6
        have hbN := hbN.upd a18 nN__6
        have hI := hI.updD a18 d_hI_b_6
        have hb_3 := hb_3.upd a18 n_3__6
        have hb_7 := hb_7.upd a18 n_6__7.symm
        have hb_6 : Has w18 b_6 (tyC bN nn cN ((at_ + ((partsT k l 4).map (cnt k)).sum + 1 : Nat) : Int) (((at_ + ((partsT k l 4).map (cnt k)).sum : Nat) : Int) + 1)) _ := hb_6.now (by kernel_rfl)
        refine RL.nil (RC.back ?_)
        refine RC.done (rs := [.cell 6 80]) (vs := [_]) rfl rfl ⟨⟨_, rfl, .inr ⟨tyC bN nn cN ((at_ + ((partsT k l 4).map (cnt k)).sum + 1 : Nat) : Int) (((at_ + ((partsT k l 4).map (cnt k)).sum : Nat) : Int) + 1), sh80, hb_6.row, rfl⟩⟩, trivial⟩ ?_
        -- end 1
        exact ⟨_, ((at_ + ((partsT k l 4).map (cnt k)).sum : Nat) : Int) + 1, (by rw [hck]; rfl), ly_trie hF rfl (by omega) (by omega) hl6 hl2, G, hbN⟩
theorem c_layH (bN cN nn : Nat) (hn6 : nn ≤ 1000000) : ∀ (k lv : Nat), k ≤ 10 → lv = 10 - k → ∀ (ns : List Node) (at_ : Nat) (r0 : Int) (l : List It) (M : Nat → Prop) (a : Option Addr) (c m : Nat) (w : World), Ap l → FitH k l → m = l.length → l.length ≤ 1000000 → at_ + cnt k l ≤ ns.length → ns.length = nn → Ft M (fun u => Sl u a 2 (l.map It.cells)) w → (∀ k, M k → k ≠ bN) → Has w bN (nodeL ns) 97 →
    FC Try.prog 45 [.agg (tyC bN nn cN at_ r0).toArray, .slice a m c, .int .i64 (lv : Int)] w (LayA bN nn cN ns at_ k l w)
  | k, lv, hk, hlv, ns, at_, r0, l, M, a, c, m, w, hap, hfit, hm, hl6, hat, hnn, hI, dN, hbN => by
    by_cases h1 : l.length ≤ 1
    · exact c_layFew bN cN nn k lv ns at_ r0 l M a c m w hm h1 (by rw [cnt_few h1] at hat; exact hat) hnn hn6 hI dN hbN
    · cases k with
      | zero =>
        obtain rfl : lv = 10 := by omega
        exact c_layC bN cN nn ns at_ r0 l hap M a c m w hm (by omega) hfit hat hnn hn6 hI dN hbN
      | succ k => exact c_layT bN cN nn k lv (by omega) (by omega) hn6 (c_layH bN cN nn hn6 k (lv + 1) (by omega) (by omega)) ns at_ r0 l hap hfit M a c m w hm (by omega) hl6 hat hnn hI dN hbN
end Go.Proofs.Ytbfjobmebkhblaa
set_option linter.unusedVariables false
set_option linter.unusedSimpArgs false
namespace Go.Proofs.Ytbfjobmebkhblaa
open Go Go.XL
theorem fit_10 {l : List It} (h : ∀ x ∈ l, shL x.k l ≤ 9) : FitH 10 l := fit_of (Nat.le_refl _) (fam_0 l) h
set_option maxHeartbeats 1000000 in
theorem c_build9 (size : Nat) (l : List It) (a : Option Addr) (c m : Nat) (hm : m = l.length) (hap : Ap l) (hfit : ∀ x ∈ l, shL x.k l ≤ 9) (hok : ∀ z ∈ l, z.ok) (h : cnt 10 l ≤ size) (h1 : 1 ≤ size) (h2 : size ≤ 1000000) (hl6 : l.length ≤ 1000000) (w : World) (hl : Sl w a 2 (l.map It.cells)) :
    FC Try.prog 18 [.int .i64 (size : Int), .slice a m c] w (fun v w' => ∃ B r na fa nc fc, v = .tuple #[arV na fa nc fc B, .int .u64 r] ∧ BldH size l B r ∧ B.nodes.length ≤ nc ∧ B.free.length ≤ fc ∧ (∀ N : Nat → Prop, (∀ k, N k → k < w.heap.size) → Imm N (fun u => ArR u na fa B) w') ∧ Sub w w') := by
  subst hm
  refine FC.intro Try.func18 rfl Try.ntmps18 rfl ?_
  have S := Sub.refl w
  refine RC.seq ?_
  refine RC.region rfl ?_
  refine RL.alloc ze34 rfl rfl (fun b_4 w_4 e_4 z_4 hb_4 s_4 => ?_)
  have ge_4 := S.le e_4
  have S := S.trans s_4
  refine RL.ev (.assign rfl) rfl rfl ?_
  refine RL.nil (RC.back ?_)
  refine RC.seq ?_
  refine RC.region rfl ?_
  refine RL.ev (.move rfl) rfl rfl ?_
  refine RL.makeSlice sl31 ze97 rfl rfl rfl rfl (by omega) rfl rfl (fun b_10 w_10 e_10 z_10 hb_10 s_10 => ?_)
  have ge_10 := S.le e_10
  have n_4__10 := hb_4.ne e_10
  have S := S.trans s_10
  have hb_4 := hb_4.sub s_10
  have hb_10 : Has w_10 b_10 (nodeL (List.replicate size (bareN 0))) 97 := by have := hb_10; rw [Int.toNat_natCast] at this; rw [nodeL, List.map_replicate]; exact this
  refine RL.ev (.buildS ze34 pl34 rfl rfl) rfl rfl ?_
  refine RL.alloc ze34 rfl rfl (fun b_6 w_6 e_6 z_6 hb_6 s_6 => ?_)
  have ge_6 := S.le e_6
  have n_4__6 := hb_4.ne e_6
  have n_10__6 := hb_10.ne e_6
  have S := S.trans s_6
  have hb_4 := hb_4.sub s_6
  have hb_10 := hb_10.sub s_6
  refine RL.store sh34 rfl rfl rfl hb_6 (by exact Nat.le_of_ble_eq_true rfl) (by rfl) rfl (fun w1 z1 hb_6 a1 => ?_)
  have S := S.upd a1 ge_6
  have hb_4 := hb_4.upd a1 n_4__6
  have hb_10 := hb_10.upd a1 n_10__6
  have hb_6 : Has w1 b_6 ([.slice (some ⟨b_10, 0, none⟩) size size, .slice none 0 0]) _ := hb_6.now (by kernel_rfl)
  refine RL.nil (RC.back ?_)
  refine RC.seq ?_
  refine RC.region rfl ?_
  refine RL.ev (.loadR ([.slice (some ⟨b_10, 0, none⟩) size size, .slice none 0 0]) sh34 rfl hb_6.row rfl) rfl rfl ?_
  refine RL.ev (.as (v' := .agg (tyC b_10 size size (0 : Nat) 0).toArray) (.buildS ze80 pl80 rfl rfl) (by rfl)) rfl rfl ?_
  refine RL.ev (.move rfl) rfl rfl ?_
  refine RL.call rfl ok45 (c_layH b_10 size size h2 10 0 (Nat.le_refl _) rfl (List.replicate size (bareN 0)) 0 0 l _ a c l.length w1 hap (fit_10 hfit) rfl hl6 (by rw [List.length_replicate]; omega) List.length_replicate ((Ft.of_sub (fun u s => hl.sub s)).sub S) (fun k hk e => by omega) hb_10) rfl rfl ?_
  rintro vL w2 ⟨ns, r, hv, hLy, ag1, hN1⟩
  have S := S.upd ag1 ge_10
  have hb_4 := hb_4.upd ag1 n_4__10
  have hb_6 := hb_6.upd ag1 n_10__6.symm
  rw [Nat.zero_add] at hv
  subst hv
  have hb_10 := hN1
  have hB := bld_ok h h2 hLy
  refine RL.alloc ze80 rfl rfl (fun b_7 w_7 e_7 z_7 hb_7 s_7 => ?_)
  have ge_7 := S.le e_7
  have n_4__7 := hb_4.ne e_7
  have n_10__7 := hb_10.ne e_7
  have n_6__7 := hb_6.ne e_7
  have S := S.trans s_7
  have hb_4 := hb_4.sub s_7
  have hb_10 := hb_10.sub s_7
  have hb_6 := hb_6.sub s_7
  refine RL.store sh80 rfl rfl rfl hb_7 (by exact Nat.le_of_ble_eq_true rfl) (by rfl) rfl (fun w4 z4 hb_7 a4 => ?_)
  have S := S.upd a4 ge_7
  have hb_4 := hb_4.upd a4 n_4__7
  have hb_10 := hb_10.upd a4 n_10__7
  have hb_6 := hb_6.upd a4 n_6__7
  have hb_7 : Has w4 b_7 (tyC b_10 size size (cnt 10 l : Nat) r) _ := hb_7.now (by kernel_rfl)
  refine RL.nil (RC.back ?_)
  refine RC.seq ?_
  refine RC.seq ?_
  refine RC.region rfl ?_
  refine RL.ev (.move rfl) rfl rfl ?_
  refine RL.ev (.as (.bin rfl rfl rfl) (wi64 (y := (size : Int) - 1 - ((0 : Nat) : Int)) (by omega) (by omega))) rfl rfl ?_
  refine RL.ev (.assign rfl) rfl rfl ?_
  obtain ⟨E, hE⟩ : ∃ E, E = w4.heap.size := ⟨_, rfl⟩
  have lt4 := hb_4.lt
  have lt7 := hb_7.lt
  have lt10 := hb_10.lt
  have szS := S.size
  rw [← hE] at lt4 lt7 lt10 szS
  refine RL.nil (RC.back ?_)
  refine RC.block ?_
  refine RC.loop (α := Nat × Option Addr × Nat × Nat) (fun x => [(1, .slice a l.length c), (4, .pointer (some ⟨b_4, 0, none⟩)), (5, .int .u64 0), (7, .pointer (some ⟨b_7, 0, none⟩)), (8, .int .i64 ((size : Int) - 1 - (x.1 : Int)))]) (fun x w5 => x.1 ≤ size - cnt 10 l ∧ Ows E w5 3 1 (.slice x.2.1 x.2.2.1 x.2.2.2) ((freeB size x.1).map fun x => [i6 x]) ∧ Has w5 b_4 [.slice none 0 0, .slice none 0 0] 34 ∧ Has w5 b_7 [.slice (some ⟨b_10, 0, none⟩) size size, .slice x.2.1 x.2.2.1 x.2.2.2, .int .i64 (cnt 10 l : Nat), .int .u64 r] 80 ∧ Has w5 b_10 (nodeL ns) 97 ∧ E ≤ w5.heap.size ∧ Sub w w5) (fun x => size - cnt 10 l - x.1) (0, none, 0, 0) (keep_of (by repeat (first | exact trivial | refine And.intro rfl ?_))) (⟨Nat.zero_le _, Ows.nil _ _ _ _, hb_4, hb_7, hb_10, by omega, S⟩) (fun x w5 hJ => ?_)
  obtain ⟨i, a_u, m_u, c_u⟩ := x; obtain ⟨hi, o, hb_4, hb_7, hb_10, szB, S⟩ := hJ; simp only [] at hi o hb_7; obtain rfl := o.sl.2; have hfl := freeB_len size i
  refine RC.seq ?_
  refine RC.seq ?_
  refine RC.region rfl ?_
  refine RL.ev (.move rfl) rfl rfl ?_
  refine RL.ev (.field0 fo80_1 rfl) rfl rfl ?_
  refine RL.ev (.load1 sh3 rfl (hb_7.cell rfl)) rfl rfl ?_
  refine RL.ev (.bin rfl rfl rfl) rfl rfl ?_
  refine RL.nil (RC.back ?_)
  refine RC.cond_dec rfl (fun h6 => ?_) (fun h6 => ?_)
  ·
    have d4 : ∀ k, ob (.slice a_u ((freeB size i).map fun x => [i6 x]).length c_u) = some k → k ≠ b_4 := fun k hk e => absurd (o.ge k hk).1 (by omega)
    have d7 : ∀ k, ob (.slice a_u ((freeB size i).map fun x => [i6 x]).length c_u) = some k → k ≠ b_7 := fun k hk e => absurd (o.ge k hk).1 (by omega)
    have d10 : ∀ k, ob (.slice a_u ((freeB size i).map fun x => [i6 x]).length c_u) = some k → k ≠ b_10 := fun k hk e => absurd (o.ge k hk).1 (by omega)
    refine RC.skip (RC.back ?_)
    refine RC.seq ?_
    refine RC.block ?_
    refine RC.region rfl ?_
    refine RL.ev (.field0 fo80_0 rfl) rfl rfl ?_
    refine RL.ev (.field0 fo34_1 rfl) rfl rfl ?_
    refine RL.ev (.load1 sh32 rfl (hb_7.cell rfl)) rfl rfl ?_
    refine RL.ev (.move rfl) rfl rfl ?_
    refine RL.buildSlice1 sl32 _ ze3 rfl rfl rfl rfl rfl rfl rfl (fun b_28 w_28 e_28 z_28 hb_28 s_28 => ?_)
    have ge_28 := S.le e_28
    have n_4__28 := hb_4.ne e_28
    have n_7__28 := hb_7.ne e_28
    have n_10__28 := hb_10.ne e_28
    have d_o_b_28 := o.neNew e_28
    have S := S.trans s_28
    have hb_4 := hb_4.sub s_28
    have hb_7 := hb_7.sub s_28
    have hb_10 := hb_10.sub s_28
    have szB := Nat.le_trans szB s_28.size
    have o := o.sub s_28
    have sz_29 := S.size
    have ltb_4_29 := hb_4.lt
    have ltb_7_29 := hb_7.lt
    have ltb_10_29 := hb_10.lt
    have ltb_28_29 := hb_28.lt
    refine RL.append2 (base := E) (rows := (freeB size i).map fun x => [i6 x]) (news := [_]) sl32 ze3 rfl rfl rfl rfl (.inl o) (Has.slOne hb_28) rfl (by intro r hr; rw [List.mem_singleton] at hr; subst hr; rfl) rfl (by (try simp only [List.length_map, List.length_nil, List.length_append, List.length_cons]); omega) (by (try simp only [List.length_map, List.length_nil, List.length_append, List.length_cons]); omega) (by omega) rfl rfl (fun v_29 w_29 hc_29 ho_29 ag_29 ob_29 => ?_)
    have o29 := ho_29 (.inl (by simp))
    rw [show _ ++ [_] = ((freeB size i ++ [(size : Int) - 1 - (i : Int)]).map fun x => [i6 x]) from by rw [List.map_append]; rfl] at o29
    have d_o29_b_4 := obNe ob_29 d4 hb_4.lt
    have d_o29_b_7 := obNe ob_29 d7 hb_7.lt
    have d_o29_b_10 := obNe ob_29 d10 hb_10.lt
    have S := S.agrN ag_29 (fun k e => Nat.le_trans (by omega) e.2)
    have hb_4 := hb_4.step ag_29 (fun e => d4 _ e.1 rfl)
    have hb_7 := hb_7.step ag_29 (fun e => d7 _ e.1 rfl)
    have hb_10 := hb_10.step ag_29 (fun e => d10 _ e.1 rfl)
    have szB := Nat.le_trans szB ag_29.size
    obtain ⟨a_29, c_29, rfl, k_29⟩ := o29.form
    refine RL.ev (.field0 fo80_0 rfl) rfl rfl ?_
    refine RL.ev (.field0 fo34_1 rfl) rfl rfl ?_
    refine RL.store sh32 rfl rfl rfl hb_7 (by exact Nat.le_of_ble_eq_true rfl) (by rfl) rfl (fun w7 z7 hb_7 a7 => ?_)
    have S := S.upd a7 ge_7
    have hb_4 := hb_4.upd a7 n_4__7
    have hb_10 := hb_10.upd a7 n_10__7
    have szB := Nat.le_trans szB a7.size
    have o29 := o29.updD a7 d_o29_b_7
    have hb_7 : Has w7 b_7 ([.slice (some ⟨b_10, 0, none⟩) size size, .slice a_29 ((freeB size i ++ [(size : Int) - 1 - (i : Int)]).map fun x => [i6 x]).length c_29, .int .i64 (cnt 10 l : Nat), .int .u64 r]) _ := hb_7
    refine RL.nil (RC.back ?_)
    refine RC.region rfl ?_
    refine RL.ev (.move rfl) rfl rfl ?_
    refine RL.ev (.as (.bin rfl rfl rfl) (wi64 (y := (size : Int) - 1 - ((i + 1 : Nat) : Int)) (by omega) (by omega))) rfl rfl ?_
    refine RL.ev (.assign rfl) rfl rfl ?_
    exact RL.nil (fun a ka => ⟨(i + 1, a_29, _, c_29), ⟨by omega, by rw [freeB_succ]; exact o29, hb_4, hb_7, hb_10, szB, S⟩, by omega, ka.keep (keep_of (by repeat (first | exact trivial | refine And.intro rfl ?_)))⟩)
  ·
    obtain rfl : i = size - cnt 10 l := (by omega)
    have d4 : ∀ k, ob (.slice a_u ((freeB size (size - cnt 10 l)).map fun x => [i6 x]).length c_u) = some k → k ≠ b_4 := fun k hk e => absurd (o.ge k hk).1 (by omega)
    have d7 : ∀ k, ob (.slice a_u ((freeB size (size - cnt 10 l)).map fun x => [i6 x]).length c_u) = some k → k ≠ b_7 := fun k hk e => absurd (o.ge k hk).1 (by omega)
    have d10 : ∀ k, ob (.slice a_u ((freeB size (size - cnt 10 l)).map fun x => [i6 x]).length c_u) = some k → k ≠ b_10 := fun k hk e => absurd (o.ge k hk).1 (by omega)
    refine RC.exit rfl (RC.back ?_)
    refine RC.seq ?_
    refine RC.drawD (fun k => k = b_4) [4] w5.heap.size 6 rfl rfl mxo (fun w8 s9 => ?_)
    have hNN : ∀ k, ((k = b_4) ∨ w5.heap.size ≤ k) → w.heap.size ≤ k := fun k e => e.elim (fun e => e ▸ ge_4) (fun e => Nat.le_trans S.size e)
    have ent_S := S.size
    have hN0 : ∀ k, w5.heap.size ≤ k → w.heap.size ≤ k := fun k e => Nat.le_trans S.size e
    have ltD_b_4 := hb_4.lt
    have ltD_b_7 := hb_7.lt
    have ltD_b_10 := hb_10.lt
    have ltD_o := fun k hk => (o.ge k hk).2
    have szD := Nat.le_refl w5.heap.size
    have S := S.trans s9
    have hb_4 := hb_4.sub s9
    have hb_7 := hb_7.sub s9
    have hb_10 := hb_10.sub s9
    have szB := Nat.le_trans szB s9.size
    have o := o.sub s9
    have szD := Nat.le_trans szD s9.size
    refine RD.take 0 rfl (by kernel_rfl) (by kernel_rfl) (by kernel_rfl) (fun w' s' => .field0 fo80_0 rfl) rfl rfl ?_
    refine RD.take 1 rfl (by kernel_rfl) (by kernel_rfl) (by kernel_rfl) (fun w' s' => .loadR ([.slice (some ⟨b_10, 0, none⟩) size size, .slice a_u ((freeB size (size - cnt 10 l)).map fun x => [i6 x]).length c_u]) sh34 rfl (row_pref (xs := [.slice (some ⟨b_10, 0, none⟩) size size, .slice a_u ((freeB size (size - cnt 10 l)).map fun x => [i6 x]).length c_u]) (ys := [.int .i64 (cnt 10 l : Nat), .int .u64 r]) (hb_7.step s' (fun e => e.elim (fun e => n_4__7.symm e) (fun e => Nat.not_le.2 ltD_b_7 e)))) rfl) rfl rfl ?_
    refine RD.take 2 rfl (by kernel_rfl) (by kernel_rfl) (by kernel_rfl) (fun w' s' => .field0 fo80_2 rfl) rfl rfl ?_
    refine RD.take 3 rfl (by kernel_rfl) (by kernel_rfl) (by kernel_rfl) (fun w' s' => .load1 sh36 rfl ((hb_7.step s' (fun e => e.elim (fun e => n_4__7.symm e) (fun e => Nat.not_le.2 ltD_b_7 e))).cell rfl)) rfl rfl ?_
    refine RD.all [4] (by kernel_rfl) rfl (RDs.cons rfl ?_ (RDs.nil))
    refine RL.store sh34 rfl rfl rfl hb_4 (by exact Nat.le_of_ble_eq_true rfl) (by rfl) rfl (fun w10 z10 hb_4 a10 => ?_)
    have S := S.upd a10 ge_4
    have hb_7 := hb_7.upd a10 n_4__7.symm
    have hb_10 := hb_10.upd a10 n_4__10.symm
    have szB := Nat.le_trans szB a10.size
    have o := o.updD a10 d4
    have szD := Nat.le_trans szD a10.size
    have hb_4 : Has w10 b_4 ([.slice (some ⟨b_10, 0, none⟩) size size, .slice a_u ((freeB size (size - cnt 10 l)).map fun x => [i6 x]).length c_u]) _ := hb_4.now (by kernel_rfl)
    refine RD.backW rfl (a10.mono fun k _ e => e ▸ (.inl (rfl))) ?_
    refine RD.take 5 rfl (by kernel_rfl) (by kernel_rfl) (by kernel_rfl) (fun w' s' => .assign rfl) rfl rfl ?_
    refine RD.done (by kernel_rfl) (RC.back ?_)
    refine RC.done (rs := [.cell 4 34, .tmp 5]) (vs := [_, _]) rfl rfl ⟨⟨_, rfl, .inr ⟨[.slice (some ⟨b_10, 0, none⟩) size size, .slice a_u ((freeB size (size - cnt 10 l)).map fun x => [i6 x]).length c_u], sh34, hb_4.row, rfl⟩⟩, rfl, trivial⟩ ?_
    -- end 1
    have kc := o.form
    obtain ⟨_, c', e, hk⟩ := kc
    cases e
    rw [List.length_map] at hk
    have hns := hB.len
    simp only [] at hns
    refine ⟨_, r, some ⟨b_10, 0, none⟩, a_u, size, c_u, ?_, hB, by rw [hB.len]; exact Nat.le_refl _, hk, fun N hN u hu => ⟨?_, (o.imm (N := N) (fun k hk => by have := hN k hk; omega)) u hu, hB.nok hok, ?_⟩, S⟩
    · show tup [Value.agg _, _] = _
      simp only [arV, hns, List.length_map]
      rfl
    · exact Has.sl0 (hb_10.step hu (fun e => by have := hN _ e; omega)) (fun r hr => by obtain ⟨z, _, rfl⟩ := List.mem_map.1 hr; rfl)
    · intro x hx
      have := freeB_mem.1 hx
      unfold I64
      omega
end Go.Proofs.Ytbfjobmebkhblaa
set_option linter.unusedVariables false
set_option linter.unusedSimpArgs false
namespace Go.Proofs.Ytbfjobmebkhblaa
open Go Go.XL
theorem tab_of {A : Ar} {r : Int} {L : List It} (hA : AOk A) (h : IsH A 10 r L) (hap : Ap L) (hl : L.length ≤ 200) : isTab A r := ⟨hA, L, h, hap, hl⟩
theorem put_twoH {A B : Ar} {r key v r' e : Int} {L : List It} (h : PutPH A r key v B r' e) (hm : isTab A r) (hL : IsH A 10 r L) (hap : Ap L) :
    (BadH L key → e = 5 ∧ r' = 0) ∧ (¬ BadH L key → e = 2 ∧ A.free.length < cnt 10 (putM L key v) ∨ e = 0 ∧ Ext A B ∧ AOk B ∧ A.free.length ≤ B.free.length + cnt 10 (putM L key v) ∧ IsH B 10 r' (putM L key v)) := by
  obtain ⟨_, h2, h3⟩ := h
  refine ⟨fun hb => ?_, fun hb => ?_⟩
  · rcases h3 L hm hL hap with h | h | h
    · exact ⟨h.2, (h2 (by omega)).2⟩
    · exact absurd hb h.1
    · exact absurd hb h.1
  · rcases h3 L hm hL hap with h | h | h
    · exact absurd h.1 hb
    · exact .inl h.2
    · exact .inr h.2
/-- a put that must go well -/
theorem PutPH.good {A B : Ar} {r key v r' e : Int} {L : List It} (h : PutPH A r key v B r' e) (hA : AOk A) (hL : IsH A 10 r L) (hap : Ap L) (hl : L.length < 9) (hk : -1073741824 ≤ key ∧ key ≤ 1073741824) (hf : 12 * (L.length + 1) ≤ A.free.length) :
    e = 0 ∧ Ext A B ∧ AOk B ∧ A.free.length ≤ B.free.length + cnt 10 (putM L key v) ∧ IsH B 10 r' (putM L key v) := by
  have hs := shL_le key L
  have hc := cnt_le 10 (putM L key v)
  have hpl := putM_len (key := key) (v := v) hap
  have hb : ¬ BadH L key := fun h => h.elim (by omega) (fun h => h.elim (by omega) (fun h => by omega))
  rcases (put_twoH h (tab_of hA hL hap (by omega)) hL hap).2 hb with h | h
  · omega
  · exact h
def few130 (A : Ar) : Ar := ⟨A.nodes.take 130, A.free.take 132⟩
theorem few130_R {w na fa A} (h : ArR w na fa A) : ArR w na fa (few130 A) :=
  ⟨by rw [few130, List.map_take]; exact h.nodes.take _, by rw [few130, List.map_take]; exact h.free.take _, fun x hx => h.nok x (List.mem_of_mem_take hx), fun x hx => h.fok x (List.mem_of_mem_take hx)⟩
end Go.Proofs.Ytbfjobmebkhblaa
set_option linter.unusedVariables false
set_option linter.unusedSimpArgs false
namespace Go.Proofs.Ytbfjobmebkhblaa
open Go Go.XL
section
variable {σ α : Type} {nx : σ → α → σ × Bool} {s : σ}
theorem pushF_one (z : α) : pushF nx s [z] = nx s z := by
  simp only [pushF]
  split
  · rename_i h; exact Prod.ext rfl h.symm
  · rename_i h; exact Prod.ext rfl (by simpa using h)
theorem pushF_take {ks : List α} {j : Nat} {z : α} (hz : ks[j]? = some z) (h : (pushF nx s (ks.take j)).2 = true) : pushF nx s (ks.take (j + 1)) = nx (pushF nx s (ks.take j)).1 z := by
  rw [List.take_add_one, hz, pushF_app h]; exact pushF_one z
theorem pushF_stop {ks : List α} {j : Nat} (h : (pushF nx s (ks.take j)).2 = false) : pushF nx s ks = pushF nx s (ks.take j) := by
  conv => lhs; rw [← List.take_append_drop j ks]
  exact pushF_l h
theorem pushF_sum {cnt : σ → Nat} {lenK : α → Nat} (h : ∀ s x, cnt (nx s x).1 ≤ cnt s + lenK x) : ∀ (L : List α) (s : σ), cnt (pushF nx s L).1 ≤ cnt s + (L.map lenK).sum
  | [], s => Nat.le_add_right _ _
  | x :: L, s => by
    have h1 := h s x
    rw [pushF, List.map_cons, List.sum_cons]
    split
    · have := pushF_sum h L (nx s x).1; omega
    · simp only []; omega
theorem sum_take {lenK : α → Nat} {ks : List α} {j : Nat} {z : α} (hz : ks[j]? = some z) : ((ks.take j).map lenK).sum + lenK z ≤ (ks.map lenK).sum := by
  have e : (ks.map lenK).sum = ((ks.take (j + 1)).map lenK).sum + ((ks.drop (j + 1)).map lenK).sum := by
    rw [← List.sum_append, ← List.map_append, List.take_append_drop]
  rw [e, List.take_add_one, hz, List.map_append, List.sum_append]
  simp
end
/-- a row of rows -/
theorem pushF_flat {σ α β : Type} {step : σ → β → σ × Bool} (f : α → List β) : ∀ (ks : List α) (s : σ), pushF (fun s z => pushF step s (f z)) s ks = pushF step s (ks.flatMap f)
  | [], s => rfl
  | z :: ks, s => by
    rw [List.flatMap_cons, pushF]
    by_cases h : (pushF step s (f z)).2 = true
    · rw [if_pos h, pushF_app h, pushF_flat f ks]
    · rw [if_neg h, pushF_l (by simpa using h)]
      exact Prod.ext rfl (by simpa using h)
/-- what a function that goes over references owes -/
def IdxT {σ : Type} (g : FuncId) (cs : List Value) (ks : List Int) (cnt : σ → Nat) (N : Nat) (lenK : Int → Nat) (I : World → Prop) (H : σ → Bool → (Nat → Prop) → World → Prop) (nx : σ → Int → σ × Bool) : Prop :=
  ∀ z ∈ ks, ∀ (s : σ) (C M : Nat → Prop) (W : World), cnt s + lenK z ≤ N → Ft M I W → (∀ k, M k → ¬ C k) → Ft C (H s true C) W → FC Try.prog g ([u6 z] ++ cs) W (fun v w' => ∃ C', v = .bool (!(nx s z).2) ∧ Ft C' (H (nx s z).1 (nx s z).2 C') w' ∧ Agr C W w' ∧ Up C W C')
theorem c_idxK {σ : Type} (g : FuncId) (hg : calleeOK Try.prog g = true) (cs : List Value) (ks : List Int) (a : Option Addr) (c : Nat) (hk : ks.length ≤ 1000) (cnt : σ → Nat) (N : Nat) (lenK : Int → Nat) (I : World → Prop) (H : σ → Bool → (Nat → Prop) → World → Prop) (nx : σ → Int → σ × Bool) (hc : ∀ s x, cnt (nx s x).1 ≤ cnt s + lenK x) (hT : IdxT g cs ks cnt N lenK I H nx) (hI : ∀ u, I u → Sl u a 1 (ks.map fun x => [u6 x]))
    (s : σ) (C M : Nat → Prop) (w : World) (m : Nat) (hm : m = ks.length) (hN : cnt s + (ks.map lenK).sum ≤ N) (hM : Ft M I w) (hMC : ∀ k, M k → ¬ C k) (hH : Ft C (H s true C) w) :
    FC Try.prog 107 [.slice a m c, .func (.func g) #[] cs.toArray] w (fun v w' => ∃ C' n, v = .int .i64 n ∧ (0 ≤ n ↔ (pushF nx s ks).2 = false) ∧ Ft C' (H (pushF nx s ks).1 (pushF nx s ks).2 C') w' ∧ Agr C w w' ∧ Up C w C') := by
  subst hm
  have hlen : ks.length < 9223372036854775807 := by omega
  refine FC.intro Try.func107 rfl Try.ntmps107 rfl ?_
  have G : Agr C w w := Agr.refl _ _
  refine RC.seq ?_
  refine RC.region rfl ?_
  refine RL.ev (.assign rfl) rfl rfl ?_
  refine RL.nil (RC.back ?_)
  refine RC.seq ?_
  refine RC.seq ?_
  refine RC.region rfl ?_
  refine RL.ev (.move rfl) rfl rfl ?_
  refine RL.ev (.len sl118 rfl) rfl rfl ?_
  refine RL.ev (.move rfl) rfl rfl ?_
  refine RL.nil (RC.back ?_)
  refine RC.block ?_
  refine RC.loop (α := Nat × (Nat → Prop)) (fun x => [(0, .slice a ks.length c), (1, .func (.func g) #[] cs.toArray), (7, .int .i64 (ks.length : Int)), (8, .int .i64 (x.1 : Int))]) (fun x w1 => (x.1 ≤ ks.length ∧ (pushF nx s (ks.take x.1)).2 = true) ∧ Ft x.2 (H (pushF nx s (ks.take x.1)).1 true x.2) w1 ∧ Ft M I w1 ∧ (∀ k, M k → ¬ x.2 k) ∧ Agr C w w1 ∧ Up C w x.2) (fun x => ks.length - x.1) (0, C) (keep_of (by repeat (first | exact trivial | refine And.intro rfl ?_))) (⟨⟨Nat.zero_le _, rfl⟩, hH, hM, hMC, G, Up.refl _ _⟩) (fun x w1 hJ => ?_)
  obtain ⟨j, Cj⟩ := x; obtain ⟨⟨hj, ht⟩, hH, hM, hMC, G, up⟩ := hJ; simp only [] at hj ht hH hMC up; have hsl := hI _ hM.now; have hsum := pushF_sum hc (ks.take j) s
  refine RC.seq ?_
  refine RC.region rfl ?_
  refine RL.ev (.bin rfl rfl rfl) rfl rfl ?_
  refine RL.nil (RC.back ?_)
  refine RC.seq ?_
  refine RC.cond_dec rfl (fun h2 => ?_) (fun h2 => ?_)
  ·
    obtain ⟨z, hz⟩ := getSome (l := ks) (i := j) (by omega)
    have hst := sum_take (lenK := lenK) hz
    refine RC.skip (RC.back ?_)
    refine RC.seq ?_
    refine RC.block ?_
    refine RC.seq ?_
    refine RC.region rfl ?_
    refine RL.ev (.move rfl) rfl rfl ?_
    refine RL.ev (.assign rfl) rfl rfl ?_
    refine RL.nil (RC.back ?_)
    refine RC.seq ?_
    refine RC.region rfl ?_
    refine RL.ev (.move rfl) rfl rfl ?_
    refine RL.ev (.move rfl) rfl rfl ?_
    refine RL.ev (.move rfl) rfl rfl ?_
    refine RL.ev (.indexS sl118 rfl rfl (by omega) (hsl.is (i := j) (by simp only [List.length_map]; omega))) rfl rfl ?_
    refine RL.ev (.load1 sh36 rfl (hsl.one (enc := u6) (i := j) hz)) rfl rfl ?_
    refine RL.callv rfl rfl (us := []) (cs := cs) hg (hT z (List.mem_of_getElem? hz) _ Cj M w1 (by omega) hM hMC hH) rfl rfl ?_
    rintro _ w3 ⟨C1, rfl, hH1, ag, up1⟩
    have hMC1 : ∀ k, M k → ¬ C1 k := fun k hk => up1.not (hM.lt k hk) (hMC k hk)
    have hM := hM.step ag hMC
    have up1 := up.trans (up1.le G.size)
    have G := G.up up ag
    rw [← pushF_take hz ht] at hH1
    have hH := hH1
    rw [← pushF_take hz ht]
    refine RL.nil (RC.back ?_)
    refine RC.cond rfl (fun h5 => ?_) (fun h5 => ?_)
    ·
      have q1 : (pushF nx s (ks.take (j + 1))).2 = false := (by simpa using h5)
      have hpe := pushF_stop q1
      refine RC.seq ?_
      refine RC.region rfl ?_
      refine RL.ev (.move rfl) rfl rfl ?_
      refine RL.ev (.assign rfl) rfl rfl ?_
      refine RL.nil (RC.back ?_)
      refine RC.done (rs := [.tmp 4]) (vs := [_]) rfl rfl ⟨rfl, trivial⟩ ?_
      -- end 1
      rw [hpe]
      exact ⟨C1, (j : Int), rfl, ⟨fun _ => q1, fun _ => by omega⟩, hH, G, up1⟩
    ·
      have q1 : (pushF nx s (ks.take (j + 1))).2 = true := (by simpa using h5)
      refine RC.skip (RC.back ?_)
      refine RC.region rfl ?_
      refine RL.ev (.as (.bin rfl rfl rfl) (wi64 (y := ((j + 1 : Nat) : Int)) (by omega) (by omega))) rfl rfl ?_
      refine RL.ev (.move rfl) rfl rfl ?_
      exact RL.nil (fun a ka => ⟨(j + 1, C1), ⟨⟨by simp only []; omega, q1⟩, (by rw [q1] at hH; exact hH), hM, hMC1, G, up1⟩, by omega, ka.keep (keep_of (by repeat (first | exact trivial | refine And.intro rfl ?_)))⟩)
  ·
    obtain rfl : j = ks.length := (by omega)
    rw [List.take_length] at ht hH
    refine RC.exit rfl (RC.back ?_)
    refine RC.seq ?_
    refine RC.region rfl ?_
    refine RL.ev (.assign rfl) rfl rfl ?_
    refine RL.nil (RC.back ?_)
    refine RC.done (rs := [.tmp 4]) (vs := [_]) rfl rfl ⟨rfl, trivial⟩ ?_
    -- end 2
    exact ⟨Cj, -1, rfl, ⟨fun h => by omega, fun h => by rw [ht] at h; cases h⟩, (by rw [ht]; exact hH), G, up⟩
theorem c_containsK {σ : Type} (g : FuncId) (hg : calleeOK Try.prog g = true) (cs : List Value) (ks : List Int) (a : Option Addr) (c : Nat) (hk : ks.length ≤ 1000) (cnt : σ → Nat) (N : Nat) (lenK : Int → Nat) (I : World → Prop) (H : σ → Bool → (Nat → Prop) → World → Prop) (nx : σ → Int → σ × Bool) (hc : ∀ s x, cnt (nx s x).1 ≤ cnt s + lenK x) (hT : IdxT g cs ks cnt N lenK I H nx) (hI : ∀ u, I u → Sl u a 1 (ks.map fun x => [u6 x]))
    (s : σ) (C M : Nat → Prop) (w : World) (m : Nat) (hm : m = ks.length) (hN : cnt s + (ks.map lenK).sum ≤ N) (hM : Ft M I w) (hMC : ∀ k, M k → ¬ C k) (hH : Ft C (H s true C) w) :
    FC Try.prog 99 [.slice a m c, .func (.func g) #[] cs.toArray] w (fun v w' => ∃ C', v = .bool (!(pushF nx s ks).2) ∧ Ft C' (H (pushF nx s ks).1 (pushF nx s ks).2 C') w' ∧ Agr C w w' ∧ Up C w C') := by
  refine FC.intro Try.func99 rfl Try.ntmps99 rfl ?_
  refine RC.seq ?_
  refine RC.region rfl ?_
  refine RL.ev (.assign rfl) rfl rfl ?_
  refine RL.nil (RC.back ?_)
  refine RC.seq ?_
  refine RC.region rfl ?_
  refine RL.ev (.move rfl) rfl rfl ?_
  refine RL.ev (.move rfl) rfl rfl ?_
  refine RL.call rfl ok107 (c_idxK g hg cs ks a c hk cnt N lenK I H nx hc hT hI s C M w m hm hN hM hMC hH) rfl rfl ?_
  rintro _ w1 ⟨C1, n, rfl, hn, hH1, ag, up⟩
  refine RL.ev (.as (v' := .bool (!(pushF nx s ks).2)) (.bin rfl rfl rfl) (by exact congrArg Value.bool (by rw [Bool.eq_iff_iff, decide_eq_true_iff, hn, Bool.not_eq_true']))) rfl rfl ?_
  refine RL.ev (.assign rfl) rfl rfl ?_
  refine RL.nil (RC.back ?_)
  refine RC.done (rs := [.tmp 4]) (vs := [_]) rfl rfl ⟨rfl, trivial⟩ ?_
  -- end 1
  exact ⟨C1, rfl, hH1, ag, up⟩
/-- what is read while a table's keys are handed on -/
def PuI (na fa : Option Addr) (nc fc : Nat) (A : Ar) (l b3 b5 b7 : Nat) (y : Node) (u : World) : Prop :=
  ArR u na fa A ∧ Has u b3 [.slice na A.nodes.length nc, .slice fa A.free.length fc] 34 ∧ Has u b5 [.func (.yield l) #[] #[]] 83 ∧ Has u b7 y.cells 97
/-- a push of a reference's keys -/
def PuT {σ : Type} (l : Nat) (H : σ → Bool → (Nat → Prop) → World → Prop) (step : σ → It → σ × Bool) (cnt : σ → Nat) (N : Nat) (A : Ar) (na fa : Option Addr) (nc fc : Nat) (r : Int) (L : List It) : Prop :=
  ∀ (s : σ) (C M : Nat → Prop) (w : World), cnt s + L.length ≤ N → Ft M (fun u => ArR u na fa A) w → (∀ k, M k → ¬ C k) → Ft C (H s true C) w →
    FC Try.prog 75 [arV na fa nc fc A, .int .u64 r, .func (.yield l) #[] #[]] w (fun v w' => ∃ C', v = .bool (pushF step s L).2 ∧ Ft C' (H (pushF step s L).1 (pushF step s L).2 C') w' ∧ Agr C w w' ∧ Up C w C')
theorem c_push1W {σ : Type} (l : Nat) (H : σ → Bool → (Nat → Prop) → World → Prop) (step : σ → It → σ × Bool) (cnt : σ → Nat) (N : Nat) (hc : ∀ s x, cnt (step s x).1 ≤ cnt s + 1) (hT : YT Try.prog l It.val It.ok cnt N H step) (A : Ar) (na fa : Option Addr) (nc fc : Nat) (b3 b5 b7 : Nat) (y : Node) (z : Int) (L : List It) (hp : PuT l H step cnt N A na fa nc fc z L) (s : σ) (C M : Nat → Prop) (w : World) (hN : cnt s + L.length ≤ N) (hM : Ft M (PuI na fa nc fc A l b3 b5 b7 y) w) (hMC : ∀ k, M k → ¬ C k) (hH : Ft C (H s true C) w) :
    FC Try.prog 100 ([u6 z] ++ [.pointer (some ⟨b3, 0, none⟩), .pointer (some ⟨b5, 0, none⟩)]) w (fun v w' => ∃ C', v = .bool (!(pushF step s L).2) ∧ Ft C' (H (pushF step s L).1 (pushF step s L).2 C') w' ∧ Agr C w w' ∧ Up C w C') := by
  obtain ⟨hA, h3, h5, h7⟩ := hM.now
  refine FC.intro Try.func100 rfl Try.ntmps100 rfl ?_
  refine RC.seq ?_
  refine RC.region rfl ?_
  refine RL.ev (.assign rfl) rfl rfl ?_
  refine RL.nil (RC.back ?_)
  refine RC.seq ?_
  refine RC.region rfl ?_
  refine RL.ev (.loadR ([.slice na A.nodes.length nc, .slice fa A.free.length fc]) sh34 rfl h3.row rfl) rfl rfl ?_
  refine RL.ev (.move rfl) rfl rfl ?_
  refine RL.ev (.load1 sh83 rfl (h5.cell rfl)) rfl rfl ?_
  refine RL.call rfl ok75 (hp s C M w hN (hM.imp fun u h => h.1) hMC hH) rfl rfl ?_
  rintro _ w1 ⟨C1, rfl, hH1, ag, up⟩
  refine RL.ev (.not rfl) rfl rfl ?_
  refine RL.ev (.assign rfl) rfl rfl ?_
  refine RL.nil (RC.back ?_)
  refine RC.done (rs := [.tmp 4]) (vs := [_]) rfl rfl ⟨rfl, trivial⟩ ?_
  -- end 1
  exact ⟨C1, rfl, hH1, ag, up⟩
theorem c_pushNil {σ : Type} (l : Nat) (H : σ → Bool → (Nat → Prop) → World → Prop) (step : σ → It → σ × Bool) (cnt : σ → Nat) (N : Nat) (hc : ∀ s x, cnt (step s x).1 ≤ cnt s + 1) (hT : YT Try.prog l It.val It.ok cnt N H step) (A : Ar) (na fa : Option Addr) (nc fc : Nat) (s0 : Unit) : PuT l H step cnt N A na fa nc fc 0 [] := by
  intro s C M w hN hA hMC hH
  refine FC.introY Try.func75 rfl Try.ntmps75 rfl ?_
  have G : Agr C w w := Agr.refl _ _
  refine RC.seq ?_
  refine RC.region rfl ?_
  refine RL.box rfl rfl rfl (fun b_3 w_3 e_3 z_3 hb_3 s_3 => ?_)
  have d_hH_b_3 := hH.neNew e_3
  have geG_3 := agLe G e_3
  have G := G.trans s_3.agr
  have hH := hH.sub s_3
  have hb_3 : Has w_3 b_3 ([.slice na A.nodes.length nc, .slice fa A.free.length fc]) _ := hb_3
  refine RL.box rfl rfl rfl (fun b_5 w_5 e_5 z_5 hb_5 s_5 => ?_)
  have n_3__5 := hb_3.ne e_5
  have d_hH_b_5 := hH.neNew e_5
  have geG_5 := agLe G e_5
  have G := G.trans s_5.agr
  have hH := hH.sub s_5
  have hb_3 := hb_3.sub s_5
  refine RL.ev (.assign rfl) rfl rfl ?_
  refine RL.nil (RC.back ?_)
  refine RC.seq ?_
  refine RC.seq ?_
  refine RC.region rfl ?_
  refine RL.ev (.move rfl) rfl rfl ?_
  refine RL.ev (.bin rfl rfl rfl) rfl rfl ?_
  refine RL.nil (RC.back ?_)
  refine RC.cond_dec rfl (fun h1 => ?_) (fun h1 => ?_)
  ·
    refine RC.seq ?_
    refine RC.region rfl ?_
    refine RL.ev (.assign rfl) rfl rfl ?_
    refine RL.nil (RC.back ?_)
    refine RC.done (rs := [.tmp 6]) (vs := [_]) rfl rfl ⟨rfl, trivial⟩ ?_
    -- end 1
    exact ⟨C, rfl, hH, G, Up.refl _ _⟩
  ·
    exact absurd rfl h1
theorem c_pushLeaf {σ : Type} (l : Nat) (H : σ → Bool → (Nat → Prop) → World → Prop) (step : σ → It → σ × Bool) (cnt : σ → Nat) (N : Nat) (hc : ∀ s x, cnt (step s x).1 ≤ cnt s + 1) (hT : YT Try.prog l It.val It.ok cnt N H step) (A : Ar) (na fa : Option Addr) (nc fc : Nat) (r : Int) (hr : U64 r) (x : It) (hx : lfA A r x) : PuT l H step cnt N A na fa nc fc r [x] := by
  intro s C M w hNn hA hMC hH
  obtain ⟨g, hg⟩ := hx
  have hyo := hA.now.nok _ (getA_nok hg)
  have hr0 := getA_nz hg
  have hCw : ∀ k, C k → k < w.heap.size := hH.lt
  rw [List.length_singleton] at hNn
  refine FC.introY Try.func75 rfl Try.ntmps75 rfl ?_
  have G : Agr C w w := Agr.refl _ _
  refine RC.seq ?_
  refine RC.region rfl ?_
  refine RL.box rfl rfl rfl (fun b_3 w_3 e_3 z_3 hb_3 s_3 => ?_)
  have d_hA_b_3 := hA.neNew e_3
  have d_hH_b_3 := hH.neNew e_3
  have geG_3 := agLe G e_3
  have G := G.trans s_3.agr
  have hA := hA.sub s_3
  have hH := hH.sub s_3
  have hb_3 : Has w_3 b_3 ([.slice na A.nodes.length nc, .slice fa A.free.length fc]) _ := hb_3
  refine RL.box rfl rfl rfl (fun b_5 w_5 e_5 z_5 hb_5 s_5 => ?_)
  have n_3__5 := hb_3.ne e_5
  have d_hA_b_5 := hA.neNew e_5
  have d_hH_b_5 := hH.neNew e_5
  have geG_5 := agLe G e_5
  have G := G.trans s_5.agr
  have hA := hA.sub s_5
  have hH := hH.sub s_5
  have hb_3 := hb_3.sub s_5
  refine RL.ev (.assign rfl) rfl rfl ?_
  refine RL.nil (RC.back ?_)
  refine RC.seq ?_
  refine RC.seq ?_
  refine RC.region rfl ?_
  refine RL.ev (.move rfl) rfl rfl ?_
  refine RL.ev (.bin rfl rfl rfl) rfl rfl ?_
  refine RL.nil (RC.back ?_)
  refine RC.cond_dec rfl (fun h1 => ?_) (fun h1 => ?_)
  ·
    exact absurd h1 hr0
  ·
    refine RC.skip (RC.back ?_)
    refine RC.seq ?_
    refine RC.region rfl ?_
    refine RL.ev (.loadR ([.slice na A.nodes.length nc, .slice fa A.free.length fc]) sh34 rfl hb_3.row rfl) rfl rfl ?_
    refine RL.ev (.move rfl) rfl rfl ?_
    refine RL.call rfl ok94 (c_aGet A na fa nc fc r hr w_5 hA.now) rfl rfl ?_
    rintro _ w2 ⟨rfl, s3⟩
    have G := G.trans s3.agr
    have hA := hA.sub s3
    have hH := hH.sub s3
    have hb_3 := hb_3.sub s3
    have hb_5 := hb_5.sub s3
    refine RL.ev (.as (v' := .tuple #[(hN 3 g x.k x.v 0 []).val, .int .i64 0]) (.move rfl) (by rw [getV_yes hg])) rfl rfl ?_
    refine RL.ev (.extract rfl rfl) rfl rfl ?_
    refine RL.ev (.extract rfl rfl) rfl rfl ?_
    refine RL.alloc ze97 rfl rfl (fun b_7 w_7 e_7 z_7 hb_7 s_7 => ?_)
    have n_3__7 := hb_3.ne e_7
    have n_5__7 := hb_5.ne e_7
    have d_hA_b_7 := hA.neNew e_7
    have d_hH_b_7 := hH.neNew e_7
    have geG_7 := agLe G e_7
    have G := G.trans s_7.agr
    have hA := hA.sub s_7
    have hH := hH.sub s_7
    have hb_3 := hb_3.sub s_7
    have hb_5 := hb_5.sub s_7
    refine RL.store sh97 rfl rfl rfl hb_7 (by exact Nat.le_of_ble_eq_true rfl) (by rfl) rfl (fun w4 z4 hb_7 a4 => ?_)
    have G := agNew G a4 geG_7
    have hA := hA.updD a4 d_hA_b_7
    have hH := hH.updD a4 d_hH_b_7
    have hb_3 := hb_3.upd a4 n_3__7
    have hb_5 := hb_5.upd a4 n_5__7
    have hb_7 : Has w4 b_7 ((hN 3 g x.k x.v 0 []).cells) _ := hb_7.now (by kernel_rfl)
    refine RL.ev (.assign rfl) rfl rfl ?_
    refine RL.nil (RC.back ?_)
    refine RC.seq ?_
    refine RC.seq ?_
    refine RC.region rfl ?_
    refine RL.ev (.field0 fo97_0 rfl) rfl rfl ?_
    refine RL.ev (.load1 sh3 rfl (hb_7.cell rfl)) rfl rfl ?_
    refine RL.ev (.as (v' := .bool true) (.bin rfl rfl rfl) (congrArg Value.bool (decide_eq_true (rfl)))) rfl rfl ?_
    refine RL.nil (RC.back ?_)
    refine RC.cond_t rfl ?_
    refine RC.seq ?_
    refine RC.region rfl ?_
    refine RL.ev (.load1 sh83 rfl (hb_5.cell rfl)) rfl rfl ?_
    refine RL.ev (.field0 fo97_2 rfl) rfl rfl ?_
    refine RL.ev (.load1 sh2 rfl (hb_7.cell rfl)) rfl rfl ?_
    refine RL.ev (.field0 fo97_3 rfl) rfl rfl ?_
    refine RL.ev (.load1 sh2 rfl (hb_7.cell rfl)) rfl rfl ?_
    refine RL.ev (.as (v' := x.val) (.buildS ze29 pl29 rfl rfl) (by rfl)) rfl rfl ?_
    refine RL.yield rfl rfl (hT s x C w4 ⟨hyo.n, hyo.v⟩ (by omega) hH) rfl rfl ?_
    rintro _ w5 ⟨C2, rfl, hH2, ag2, up2⟩
    have up2 := up2.le G.size
    have G := G.trans ag2
    refine RL.ev (.assign rfl) rfl rfl ?_
    refine RL.nil (RC.back ?_)
    refine RC.done (rs := [.tmp 6]) (vs := [_]) rfl rfl ⟨rfl, trivial⟩ ?_
    -- end 1
    rw [pushF_one]
    exact ⟨C2, rfl, hH2, G, up2⟩
theorem c_pushNode {σ : Type} (l : Nat) (H : σ → Bool → (Nat → Prop) → World → Prop) (step : σ → It → σ × Bool) (cnt : σ → Nat) (N : Nat) (hc : ∀ s x, cnt (step s x).1 ≤ cnt s + 1) (hT : YT Try.prog l It.val It.ok cnt N H step) (A : Ar) (na fa : Option Addr) (nc fc : Nat) (r : Int) (hr : U64 r) (y : Node) (hy : getA A r = some y) (h3 : ¬ y.kind = 3) (f : Int → List It) (hf : ∀ z ∈ y.kids, PuT l H step cnt N A na fa nc fc z (f z)) : PuT l H step cnt N A na fa nc fc r (y.kids.flatMap f) := by
  intro s C M w hN hA hMC hH
  have hyo := hA.now.nok _ (getA_nok hy)
  have hr0 := getA_nz hy
  have hCw : ∀ k, C k → k < w.heap.size := hH.lt
  have hfl : (y.kids.flatMap f).length = (y.kids.map fun z => (f z).length).sum := by rw [List.length_flatMap]
  refine FC.introY Try.func75 rfl Try.ntmps75 rfl ?_
  have G : Agr C w w := Agr.refl _ _
  refine RC.seq ?_
  refine RC.region rfl ?_
  refine RL.box rfl rfl rfl (fun b_3 w_3 e_3 z_3 hb_3 s_3 => ?_)
  have d_hA_b_3 := hA.neNew e_3
  have d_hH_b_3 := hH.neNew e_3
  have geG_3 := agLe G e_3
  have G := G.trans s_3.agr
  have hA := hA.sub s_3
  have hH := hH.sub s_3
  have hb_3 : Has w_3 b_3 ([.slice na A.nodes.length nc, .slice fa A.free.length fc]) _ := hb_3
  refine RL.box rfl rfl rfl (fun b_5 w_5 e_5 z_5 hb_5 s_5 => ?_)
  have n_3__5 := hb_3.ne e_5
  have d_hA_b_5 := hA.neNew e_5
  have d_hH_b_5 := hH.neNew e_5
  have geG_5 := agLe G e_5
  have G := G.trans s_5.agr
  have hA := hA.sub s_5
  have hH := hH.sub s_5
  have hb_3 := hb_3.sub s_5
  refine RL.ev (.assign rfl) rfl rfl ?_
  refine RL.nil (RC.back ?_)
  refine RC.seq ?_
  refine RC.seq ?_
  refine RC.region rfl ?_
  refine RL.ev (.move rfl) rfl rfl ?_
  refine RL.ev (.bin rfl rfl rfl) rfl rfl ?_
  refine RL.nil (RC.back ?_)
  refine RC.cond_dec rfl (fun h1 => ?_) (fun h1 => ?_)
  ·
    exact absurd h1 hr0
  ·
    refine RC.skip (RC.back ?_)
    refine RC.seq ?_
    refine RC.region rfl ?_
    refine RL.ev (.loadR ([.slice na A.nodes.length nc, .slice fa A.free.length fc]) sh34 rfl hb_3.row rfl) rfl rfl ?_
    refine RL.ev (.move rfl) rfl rfl ?_
    refine RL.call rfl ok94 (c_aGet A na fa nc fc r hr w_5 hA.now) rfl rfl ?_
    rintro _ w2 ⟨rfl, s3⟩
    have G := G.trans s3.agr
    have hA := hA.sub s3
    have hH := hH.sub s3
    have hb_3 := hb_3.sub s3
    have hb_5 := hb_5.sub s3
    refine RL.ev (.as (v' := .tuple #[y.val, .int .i64 0]) (.move rfl) (by rw [getV_yes hy])) rfl rfl ?_
    refine RL.ev (.extract rfl rfl) rfl rfl ?_
    refine RL.ev (.extract rfl rfl) rfl rfl ?_
    refine RL.alloc ze97 rfl rfl (fun b_7 w_7 e_7 z_7 hb_7 s_7 => ?_)
    have n_3__7 := hb_3.ne e_7
    have n_5__7 := hb_5.ne e_7
    have d_hA_b_7 := hA.neNew e_7
    have d_hH_b_7 := hH.neNew e_7
    have geG_7 := agLe G e_7
    have G := G.trans s_7.agr
    have hA := hA.sub s_7
    have hH := hH.sub s_7
    have hb_3 := hb_3.sub s_7
    have hb_5 := hb_5.sub s_7
    refine RL.store sh97 rfl rfl rfl hb_7 (by exact Nat.le_of_ble_eq_true rfl) (by rfl) rfl (fun w4 z4 hb_7 a4 => ?_)
    have G := agNew G a4 geG_7
    have hA := hA.updD a4 d_hA_b_7
    have hH := hH.updD a4 d_hH_b_7
    have hb_3 := hb_3.upd a4 n_3__7
    have hb_5 := hb_5.upd a4 n_5__7
    have hb_7 : Has w4 b_7 (y.cells) _ := hb_7.now (by kernel_rfl)
    refine RL.ev (.assign rfl) rfl rfl ?_
    refine RL.nil (RC.back ?_)
    refine RC.seq ?_
    refine RC.seq ?_
    refine RC.region rfl ?_
    refine RL.ev (.field0 fo97_0 rfl) rfl rfl ?_
    refine RL.ev (.load1 sh3 rfl (hb_7.cell rfl)) rfl rfl ?_
    refine RL.ev (.as (v' := .bool false) (.bin rfl rfl rfl) (congrArg Value.bool (decide_eq_false (h3)))) rfl rfl ?_
    refine RL.nil (RC.back ?_)
    refine RC.cond_f rfl ?_
    refine RC.skip (RC.back ?_)
    refine RC.seq ?_
    refine RC.region rfl ?_
    refine RL.ev (.field0 fo97_5 rfl) rfl rfl ?_
    refine RL.ev (.sliceArr ar95 rfl) rfl rfl ?_
    refine RL.ev (.func (xs := []) (ys := [_, _]) rfl rfl) rfl rfl ?_
    refine RL.call rfl ok99 (c_containsK 100 ok100 [.pointer (some ⟨b_3, 0, none⟩), .pointer (some ⟨b_5, 0, none⟩)] y.kids (some ⟨b_7, 5, none⟩) 9 (Nat.le_of_ble_eq_true rfl) cnt N (fun z => (f z).length) (PuI na fa nc fc A l b_3 b_5 b_7 y) H (fun s z => pushF step s (f z)) (fun s z => pushF_cnt hc (f z) s) (fun z hz s C M W q1 q2 q3 q4 => c_push1W l H step cnt N hc hT A na fa nc fc b_3 b_5 b_7 y z (f z) (hf z hz) s C M W q1 q2 q3 q4) (fun u h => Has.slPart (enc := u6) (l := y.kids) (pre := [i6 y.kind, i6 y.gen, i6 y.n, i6 y.v, i6 y.s]) (post := [i6 y.pre, i6 y.suf]) h.2.2.2 rfl) s C (fun k => M k ∨ k = b_3 ∨ k = b_5 ∨ k = b_7) w4 9 rfl (by omega) (hA.and (hb_3.ft.and (hb_5.ft.and hb_7.ft))) (fun k hk hC => by rcases hk with hk | hk | hk | hk; exact hMC k hk hC; all_goals (have := hCw k hC; omega)) hH) rfl rfl ?_
    rintro _ w5 ⟨C2, rfl, hH2, ag2, up2⟩
    have up2 := up2.le G.size
    have G := G.trans ag2
    rw [pushF_flat f] at hH2
    rw [pushF_flat f]
    refine RL.ev (.not rfl) rfl rfl ?_
    refine RL.ev (.assign rfl) rfl rfl ?_
    refine RL.nil (RC.back ?_)
    refine RC.done (rs := [.tmp 6]) (vs := [_]) rfl rfl ⟨rfl, trivial⟩ ?_
    -- end 1
    exact ⟨C2, by rw [Bool.not_not]; rfl, hH2, G, up2⟩
end Go.Proofs.Ytbfjobmebkhblaa
set_option linter.unusedVariables false
set_option linter.unusedSimpArgs false
namespace Go.Proofs.Ytbfjobmebkhblaa
open Go Go.XL
theorem rd_fuel {A : Ar} : ∀ {k : Nat} {r : Int} {L : List It}, IsH A k r L → ∀ f, rdF A (k + f + 2) r = rdF A (k + 2) r
  | k, r, L, h, f => by
    rcases row_cases L with rfl | ⟨x, rfl⟩ | h2
    · rw [isH_nil.1 h, rdF_no (getA_z A), rdF_no (getA_z A)]
    · rw [rdF_leaf (isH_one.1 h), rdF_leaf (isH_one.1 h)]
    · cases k with
      | zero =>
        obtain ⟨y, m, q1, q2, _, _, _, _, q6, q7, q8⟩ := clash_node ((isH_clash h2).1 h) h2
        rw [rd_clash (f := 0 + f) q1 q2 q6 q7 q8, rd_clash (f := 0) q1 q2 q6 q7 q8]
      | succ k =>
        obtain ⟨y, q1, q2, _, q4, q5⟩ := trie_zero h h2
        rw [show k + 1 + f + 2 = (k + f + 2) + 1 by omega, show k + 1 + 2 = (k + 2) + 1 by omega, rdF_node q1 (by omega), rdF_node q1 (by omega), kids4 q5 _ (rdF_no (getA_z A)), kids4 q5 _ (rdF_no (getA_z A)), rd_fuel (q4 0 (by omega)) f, rd_fuel (q4 1 (by omega)) f, rd_fuel (q4 2 (by omega)) f, rd_fuel (q4 3 (by omega)) f]
/-- a table's keys and values, in the order of its nodes -/
def rowH (A : Ar) (r : Int) : List It := rdF A 12 r
theorem rowH_perm {A : Ar} {r : Int} {L : List It} (h : IsH A 10 r L) : (rowH A r).Perm L := rd_perm (k := 10) (f := 0) h
theorem readT_rowH {A : Ar} {r : Int} {L : List It} (h : IsH A 10 r L) (hap : Ap L) : (readT A r).2.1 = rowH A r := by
  unfold readT rowH
  rw [readH_ok A.nodes.length h hap [] [] List.nodup_nil (fun p _ h => by cases h)]
  exact (List.nil_append _).trans (rd_fuel h A.nodes.length)
theorem c_pushAll {σ : Type} (l : Nat) (H : σ → Bool → (Nat → Prop) → World → Prop) (step : σ → It → σ × Bool) (cnt : σ → Nat) (N : Nat) (hc : ∀ s x, cnt (step s x).1 ≤ cnt s + 1) (hT : YT Try.prog l It.val It.ok cnt N H step) (A : Ar) (na fa : Option Addr) (nc fc : Nat) (hn : ∀ x ∈ A.nodes, x.ok) : ∀ (k : Nat) (r : Int) (L : List It), IsH A k r L → U64 r → PuT l H step cnt N A na fa nc fc r (rdF A (k + 2) r)
  | k, r, L, h, hr => by
    have zero : ∀ F, PuT l H step cnt N A na fa nc fc 0 (rdF A F 0) := fun F => by
      rw [rdF_no (getA_z A)]; exact c_pushNil l H step cnt N hc hT A na fa nc fc ()
    rcases row_cases L with rfl | ⟨x, rfl⟩ | h2
    · rw [isH_nil.1 h]; exact zero _
    · rw [rdF_leaf (isH_one.1 h)]; exact c_pushLeaf l H step cnt N hc hT A na fa nc fc r hr x (isH_one.1 h)
    · cases k with
      | zero =>
        obtain ⟨y, m, q1, q2, _, _, _, _, q6, q7, q8⟩ := clash_node ((isH_clash h2).1 h) h2
        have hyo := hn _ (getA_nok q1)
        rw [rdF_node q1 (by omega)]
        refine c_pushNode l H step cnt N hc hT A na fa nc fc r hr y q1 (by omega) _ fun z hz => ?_
        obtain ⟨j, hj⟩ := List.getElem?_of_mem hz
        have hj9 : j < 9 := lt_of_get hj
        by_cases hjm : j < m.length
        · obtain ⟨x, hx⟩ := getSome (l := m) hjm
          have h6 := q7 j x hx
          rw [kid_get hj] at h6
          rw [rdF_leaf h6]
          exact c_pushLeaf l H step cnt N hc hT A na fa nc fc z (hyo.kids z hz) x h6
        · have h6 := q8 j (by omega) hj9
          rw [kid_get hj] at h6
          rw [h6]; exact zero _
      | succ k =>
        obtain ⟨y, q1, q2, _, q4, q5⟩ := trie_zero h h2
        have hyo := hn _ (getA_nok q1)
        rw [show k + 1 + 2 = (k + 2) + 1 by omega, rdF_node q1 (by omega)]
        refine c_pushNode l H step cnt N hc hT A na fa nc fc r hr y q1 (by omega) _ fun z hz => ?_
        obtain ⟨j, hj⟩ := List.getElem?_of_mem hz
        have hj9 : j < 9 := lt_of_get hj
        by_cases hj4 : j < 4
        · have h6 := q4 j hj4
          rw [kid_get hj] at h6
          exact c_pushAll l H step cnt N hc hT A na fa nc fc hn k z _ h6 (hyo.kids z hz)
        · have h6 := q5 j (by omega) hj9
          rw [kid_get hj] at h6
          rw [h6]; exact zero _
theorem c_wleaves1 {σ : Type} (l : Nat) (H : σ → Bool → (Nat → Prop) → World → Prop) (step : σ → It → σ × Bool) (cnt : σ → Nat) (N : Nat) (hc : ∀ s x, cnt (step s x).1 ≤ cnt s + 1) (hT : YT Try.prog l It.val It.ok cnt N H step) (A : Ar) (na fa : Option Addr) (nc fc : Nat) (r : Int) (hr : U64 r) (L : List It) (hL : IsH A 10 r L) (s : σ) (C M : Nat → Prop) (b2 b3 : Nat) (w : World) (hN : cnt s + L.length ≤ N) (hA : Ft M (fun u => ArR u na fa A) w) (hMC : ∀ k, M k → ¬ C k) (hH : Ft C (H s true C) w)
    (h2 : Has w b2 [.slice na A.nodes.length nc, .slice fa A.free.length fc] 34) (h3 : Has w b3 [.int .u64 r] 36) :
    FC Try.prog 74 [.func (.yield l) #[] #[], .pointer (some ⟨b2, 0, none⟩), .pointer (some ⟨b3, 0, none⟩)] w (fun _ w' => ∃ C', Ft C' (H (pushF step s (rowH A r)).1 (pushF step s (rowH A r)).2 C') w' ∧ Agr C w w' ∧ Up C w C') := by
  have hlen := (rowH_perm hL).length_eq
  refine FC.intro Try.func74 rfl Try.ntmps74 rfl ?_
  refine RC.region rfl ?_
  refine RL.ev (.loadR ([.slice na A.nodes.length nc, .slice fa A.free.length fc]) sh34 rfl h2.row rfl) rfl rfl ?_
  refine RL.ev (.load1 sh36 rfl (h3.cell rfl)) rfl rfl ?_
  refine RL.ev (.move rfl) rfl rfl ?_
  refine RL.call rfl ok75 (c_pushAll l H step cnt N hc hT A na fa nc fc hA.now.nok 10 r L hL hr s C M w (by show cnt s + (rowH A r).length ≤ N; omega) hA hMC hH) rfl rfl ?_
  rintro _ w1 ⟨C1, rfl, hH1, ag, up⟩
  refine RL.nil ?_
  refine fun a ka => ⟨ka.defers, _, run_results (rs := []) (vs := []) ka rfl trivial, ?_⟩
  -- end 1
  exact ⟨C1, hH1, ag, up⟩
theorem c_wleaves (A : Ar) (na fa : Option Addr) (nc fc : Nat) (r : Int) (w : World) :
    FC Try.prog 49 [arV na fa nc fc A, .int .u64 r] w (fun v w' => ∃ b2 b3, v = .func (.func 74) #[] #[.pointer (some ⟨b2, 0, none⟩), .pointer (some ⟨b3, 0, none⟩)] ∧ Has w' b2 [.slice na A.nodes.length nc, .slice fa A.free.length fc] 34 ∧ Has w' b3 [.int .u64 r] 36 ∧ Sub w w') := by
  refine FC.intro Try.func49 rfl Try.ntmps49 rfl ?_
  have S := Sub.refl w
  refine RC.seq ?_
  refine RC.region rfl ?_
  refine RL.box rfl rfl rfl (fun b_2 w_2 e_2 z_2 hb_2 s_2 => ?_)
  have ge_2 := S.le e_2
  have S := S.trans s_2
  have hb_2 : Has w_2 b_2 ([.slice na A.nodes.length nc, .slice fa A.free.length fc]) _ := hb_2
  refine RL.box rfl rfl rfl (fun b_3 w_3 e_3 z_3 hb_3 s_3 => ?_)
  have ge_3 := S.le e_3
  have n_2__3 := hb_2.ne e_3
  have S := S.trans s_3
  have hb_2 := hb_2.sub s_3
  refine RL.ev (.assign rfl) rfl rfl ?_
  refine RL.nil (RC.back ?_)
  refine RC.seq ?_
  refine RC.region rfl ?_
  refine RL.ev (.func (xs := []) (ys := [_, _]) rfl rfl) rfl rfl ?_
  refine RL.ev (.assign rfl) rfl rfl ?_
  refine RL.nil (RC.back ?_)
  refine RC.done (rs := [.tmp 4]) (vs := [_]) rfl rfl ⟨rfl, trivial⟩ ?_
  -- end 1
  exact ⟨b_2, b_3, rfl, hb_2, hb_3, S⟩
def stCol (s : List It) (x : It) : List It × Bool := (s ++ [x], true)
theorem push_col : ∀ (l s : List It), pushF stCol s l = (s ++ l, true)
  | [], s => by rw [List.append_nil]; rfl
  | x :: l, s => by rw [pushF_t rfl, push_col l]; simp [stCol]
theorem stCol_cnt (s : List It) (x : It) : (stCol s x).1.length ≤ s.length + 1 := by simp [stCol]
/-- how the boxes stand between two rounds -/
def HCol (l : Nat) (rL : Loop) (b2 base : Nat) (rows : List It) (b : Bool) (C : Nat → Prop) (W : World) : Prop :=
  ∃ v, (Lp l (recB rL 0 b) W ∧ Has W b2 [v] 26 ∧ Ows base W 29 2 v (rows.map It.cells)) ∧ (∀ k, ob v = some k → k ≠ l ∧ k ≠ b2) ∧ ∀ k, C k ↔ (k = l ∨ k = b2 ∨ ob v = some k)
theorem HCol.ft {l : Nat} {rL : Loop} {b2 base : Nat} {rows : List It} {b : Bool} {C : Nat → Prop} {W : World} {v : Value} (hC : ∀ k, C k ↔ (k = l ∨ k = b2 ∨ ob v = some k))
    (h1 : Lp l (recB rL 0 b) W) (h2 : Has W b2 [v] 26) (h5 : Ows base W 29 2 v (rows.map It.cells)) (hob : ∀ k, ob v = some k → k ≠ l ∧ k ≠ b2) :
    Ft C (HCol l rL b2 base rows b C) W := by
  refine ⟨fun k hk => ?_, fun u a => ⟨v, ⟨h1.step a (fun hn => hn ((hC _).2 (.inl rfl))), h2.step a (fun hn => hn ((hC _).2 (.inr (.inl rfl)))), h5.step a (fun k hk hn => hn ((hC k).2 (.inr (.inr hk))))⟩, hob, hC⟩⟩
  rcases (hC k).1 hk with rfl | rfl | h
  · exact h1.lt
  · exact h2.lt
  · exact (h5.ge k h).2
theorem c_appendSeq (A : Ar) (na fa : Option Addr) (nc fc : Nat) (r : Int) (hr : U64 r) (L : List It) (hTT : IsH A 10 r L) (hl : L.length ≤ 200) (bA bR : Nat) (w : World) (hA : ArR w na fa A) (hbA : Has w bA [.slice na A.nodes.length nc, .slice fa A.free.length fc] 34) (hbR : Has w bR [.int .u64 r] 36) :
    FC Try.prog 73 [.slice none 0 0, .func (.func 74) #[] #[.pointer (some ⟨bA, 0, none⟩), .pointer (some ⟨bR, 0, none⟩)]] w (fun v w' => Sub w w' ∧ ∃ a c, v = .slice a ((rowH A r).map It.cells).length c ∧ Ows w.heap.size w' 29 2 (.slice a ((rowH A r).map It.cells).length c) ((rowH A r).map It.cells)) := by
  refine FC.introM Try.func73 rfl Try.ntmps73 rfl ?_
  have S := Sub.refl w
  refine RC.seq ?_
  refine RC.region rfl ?_
  refine RL.box rfl rfl rfl (fun b_2 w_2 e_2 z_2 hb_2 s_2 => ?_)
  have ge_2 := S.le e_2
  have S := S.trans s_2
  refine RL.ev (.assign rfl) rfl rfl ?_
  refine RL.nil (RC.back ?_)
  refine RC.seq ?_
  refine RC.seq ?_
  refine RC.region rfl ?_
  refine RL.ev (.move rfl) rfl rfl ?_
  refine RL.nil (RC.back ?_)
  refine RC.range (cs := [_, _]) rfl ok74 ?_
  intro rL W1 hst hpe hps hasg hbd hk1 s1 z1 hL hD
  obtain ⟨b_D, eD⟩ : ∃ D, D = w_2.heap.size := ⟨_, rfl⟩
  rw [← eD] at hk1 z1 hL hD ⊢
  obtain ⟨b_l, el⟩ : ∃ l, l = b_D + 1 := ⟨_, rfl⟩
  rw [← el] at hk1 hL ⊢
  have n_D_l : b_D ≠ b_l := by omega
  have ge_D : _ ≤ b_D := Nat.le_trans S.size (by omega)
  have ge_l : _ ≤ b_l := Nat.le_trans S.size (by omega)
  have nb_2_b_D : b_2 ≠ b_D := fun e => by have := hb_2.lt; omega
  have nb_2_b_l : b_2 ≠ b_l := fun e => by have := hb_2.lt; omega
  have S := S.trans s1
  have hb_2 := hb_2.sub s1
  rw [recB_0 (id := 0) hst hpe] at hL
  have hY : YT Try.prog b_l It.val It.ok List.length 200 (HCol b_l rL b_2 w.heap.size) (stCol) := by
    intro s x C W hx hcn hH
    obtain ⟨v, ⟨hL, hb_2, o⟩, hob, hC⟩ := hH.now
    have szB : w.heap.size ≤ W.heap.size := (by have := hL.lt; omega)
    have G : Agr (fun k => k = b_l ∨ k = b_2 ∨ ob v = some k) W W := Agr.refl _ _
    refine FY.intro (m := 13) (F := upd _ (some 7) x.val) [0] hL rfl (by show 1 = rL.params.size; rw [hps]; rfl) (knows1 hps hk1 rfl) ?_
    show RC _ _ rL.assign _ _ _
    rw [hasg]
    refine RC.region rfl ?_
    refine RL.alloc ze29 rfl rfl (fun b_5 w_5 e_5 z_5 hb_5 s_5 => ?_)
    have n_l__5 := hL.ne e_5
    have n_2__5 := hb_2.ne e_5
    have d_o_b_5 := o.neNew e_5
    have hL := hL.sub s_5
    have hb_2 := hb_2.sub s_5
    have o := o.sub s_5
    have geG_5 := agLe G e_5
    have G := G.trans s_5.agr
    have szB := Nat.le_trans szB s_5.size
    refine RL.store sh29 rfl rfl rfl hb_5 (by exact Nat.le_of_ble_eq_true rfl) (by rfl) rfl (fun w1 z1 hb_5 a1 => ?_)
    have hL := hL.upd a1 n_l__5
    have hb_2 := hb_2.upd a1 n_2__5
    have o := o.updD a1 d_o_b_5
    have G := agNew G a1 geG_5
    have szB := Nat.le_trans szB a1.size
    have hb_5 : Has w1 b_5 (x.cells) _ := hb_5.now (by kernel_rfl)
    refine RL.nil (RC.begin hL ?_)
    intro w2 a2 z2 hL
    have hb_2 := hb_2.step a2 (fun e => nb_2_b_l e)
    have o := o.step a2 (fun k hk e => (fun k hk => (hob k hk).1) k hk e)
    have G := G.trans (a2.mono fun k _ e => .inl e)
    have szB := Nat.le_trans szB a2.size
    have hb_5 := hb_5.step a2 (fun e => n_l__5.symm e)
    show RC _ _ rL.body _ _ _
    rw [hbd]
    refine RC.block ?_
    refine RC.region rfl ?_
    refine RL.ev (.load1 sh26 rfl (hb_2.cell rfl)) rfl rfl ?_
    refine RL.ev (.loadR (x.cells) sh29 rfl hb_5.row rfl) rfl rfl ?_
    refine RL.buildSlice1 sl26 _ ze29 rfl rfl rfl rfl rfl rfl rfl (fun b_10 w_10 e_10 z_10 hb_10 s_10 => ?_)
    have n_2__10 := hb_2.ne e_10
    have n_5__10 := hb_5.ne e_10
    have n_l__10 := hL.ne e_10
    have d_o_b_10 := o.neNew e_10
    have hb_2 := hb_2.sub s_10
    have o := o.sub s_10
    have geG_10 := agLe G e_10
    have G := G.trans s_10.agr
    have szB := Nat.le_trans szB s_10.size
    have hb_5 := hb_5.sub s_10
    have hL := hL.sub s_10
    have ltb_2_11 := hb_2.lt
    have szG_11 := G.size
    have ltb_5_11 := hb_5.lt
    have ltb_l_11 := hL.lt
    have ltb_10_11 := hb_10.lt
    refine RL.append2 (base := w.heap.size) (rows := s.map It.cells) (news := [_]) sl26 ze29 rfl rfl rfl rfl (.inl o) (Has.slOne hb_10) rfl (by intro r hr; rw [List.mem_singleton] at hr; subst hr; rfl) rfl (by (try simp only [List.length_map, List.length_nil, List.length_append, List.length_cons]); omega) (by (try simp only [List.length_map, List.length_nil, List.length_append, List.length_cons]); omega) (by omega) rfl rfl (fun v_11 w_11 hc_11 ho_11 ag_11 ob_11 => ?_)
    have o11 := ho_11 (.inl (by simp))
    rw [show _ ++ [_] = ((s ++ [x]).map It.cells) from by rw [List.map_append]; rfl] at o11
    have d_o11_b_2 := obNe ob_11 (fun k hk => (hob k hk).2) hb_2.lt
    have d_o11_b_5 := obNe ob_11 d_o_b_5 hb_5.lt
    have d_o11_b_l := obNe ob_11 (fun k hk => (hob k hk).1) hL.lt
    have hb_2 := hb_2.step ag_11 (fun e => (fun k hk => (hob k hk).2) _ e.1 rfl)
    have G := G.trans (ag_11.mono fun k _ e => .inr (.inr e.1))
    have szB := Nat.le_trans szB ag_11.size
    have hb_5 := hb_5.step ag_11 (fun e => d_o_b_5 _ e.1 rfl)
    have hL := hL.step ag_11 (fun e => (fun k hk => (hob k hk).1) _ e.1 rfl)
    obtain ⟨a_11, c_11, rfl, k_11⟩ := o11.form
    refine RL.store sh26 rfl rfl rfl hb_2 (by exact Nat.le_of_ble_eq_true rfl) (by rfl) rfl (fun w3 z3 hb_2 a3 => ?_)
    have G := G.trans (a3.mono fun k _ e => .inr (.inl e))
    have szB := Nat.le_trans szB a3.size
    have hb_5 := hb_5.upd a3 n_2__5.symm
    have hL := hL.upd a3 nb_2_b_l.symm
    have o11 := o11.updD a3 d_o11_b_2
    refine RL.nil (RC.endr (j := none) hL ?_)
    intro w4 a4 z4 hL
    have hb_2 := hb_2.step a4 (fun e => nb_2_b_l e)
    have G := G.trans (a4.mono fun k _ e => .inl e)
    have szB := Nat.le_trans szB a4.size
    have hb_5 := hb_5.step a4 (fun e => n_l__5.symm e)
    have o11 := o11.step a4 (fun k hk e => d_o11_b_l k hk e)
    -- round end 1
    refine ⟨_, rfl, HCol.ft (fun _ => Iff.rfl) hL hb_2 o11 (fun k hk => ⟨d_o11_b_l k hk, d_o11_b_2 k hk⟩), G.mono fun k _ e => (hC k).2 e, fun k hk => ?_⟩
    rcases hk with e | e | e
    · exact .inl ((hC k).2 (.inl e))
    · exact .inl ((hC k).2 (.inr (.inl e)))
    · rcases ob_11 with h | ⟨c, h, h3⟩
      · exact .inl ((hC k).2 (.inr (.inr (h ▸ e))))
      · rw [h] at e; cases e; exact .inr (Nat.le_trans szG_11 h3)
  refine FC.mono (c_wleaves1 b_l _ _ _ _ stCol_cnt hY A na fa nc fc r hr L hTT [] (fun k => k = b_l ∨ k = b_2 ∨ ob (.slice none 0 0) = some k) (· < w.heap.size) bA bR W1 (by simpa using hl) ((Ft.of_sub fun u s => hA.sub s).sub S) (fun k hk e => by rcases e with e | e | e <;> first | (cases e; done) | omega) (HCol.ft (fun _ => Iff.rfl) hL hb_2 (Ows.nil _ _ _ _) (fun k e => by cases e)) ((hbA.sub S)) ((hbR.sub S))) ?_
  rintro _ W2 ⟨C2, hH, ag, up⟩
  rw [push_col] at hH
  obtain ⟨v, ⟨hL, hb_2, o⟩, hob, hC⟩ := hH.now
  have hDC : ¬ (b_D = b_l ∨ b_D = b_2 ∨ ob (.slice none 0 0) = some b_D) := (fun e => by rcases e with e | e | e <;> first | (cases e; done) | omega)
  have S := S.agrN ag (fun k e => by rcases e with e | e | e <;> first | (cases e; done) | omega)
  have hDn : ¬ C2 b_D := up.not hD.lt hDC
  have hD := hD.step ag hDC
  have hoD : ∀ k, ob v = some k → k ≠ b_D := fun k hk e => hDn (e ▸ (hC k).2 (.inr (.inr hk)))
  obtain ⟨a1, c1, rfl, _⟩ := o.form
  refine ⟨_, hL, recB_nb, fun W3 a3 z3 => .inl ⟨recB_pe, RC.backM ?_⟩⟩
  have S := S.agrN a3 (fun k e => e ▸ ge_l)
  have o := o.step a3 (fun k hk e => (fun k hk => (hob k hk).1) k hk e)
  have hb_2 := hb_2.step a3 (fun e => nb_2_b_l e)
  have hD := hD.step a3 (fun e => n_D_l e)
  refine RC.seq ?_
  refine RC.region rfl ?_
  refine RL.ev (.load1 sh26 rfl (hb_2.cell rfl)) rfl rfl ?_
  refine RL.ev (.assign rfl) rfl rfl ?_
  refine RL.nil (RC.back ?_)
  refine RC.doneM (rs := [.tmp 4]) (vs := [_]) rfl rfl (fun _ => ⟨rfl, trivial⟩) hD (fun w5 a5 z5 => ?_)
  have S := S.agrN a5 (fun k e => e ▸ ge_D)
  have o := o.step a5 (fun k hk e => hoD k hk e)
  have hb_2 := hb_2.step a5 (fun e => nb_2_b_D e)
  -- end 1
  exact ⟨S, a1, c1, rfl, o⟩
theorem c_collect (A : Ar) (na fa : Option Addr) (nc fc : Nat) (r : Int) (hr : U64 r) (L : List It) (hL : IsH A 10 r L) (hl : L.length ≤ 200) (bA bR : Nat) (w : World) (hA : ArR w na fa A) (hbA : Has w bA [.slice na A.nodes.length nc, .slice fa A.free.length fc] 34) (hbR : Has w bR [.int .u64 r] 36) :
    FC Try.prog 48 [.func (.func 74) #[] #[.pointer (some ⟨bA, 0, none⟩), .pointer (some ⟨bR, 0, none⟩)]] w (fun v w' => Sub w w' ∧ ∃ a c, v = .slice a ((rowH A r).map It.cells).length c ∧ Ows w.heap.size w' 29 2 (.slice a ((rowH A r).map It.cells).length c) ((rowH A r).map It.cells)) := by
  refine FC.intro Try.func48 rfl Try.ntmps48 rfl ?_
  have S := Sub.refl w
  refine RC.seq ?_
  refine RC.region rfl ?_
  refine RL.ev (.assign rfl) rfl rfl ?_
  refine RL.nil (RC.back ?_)
  refine RC.seq ?_
  refine RC.region rfl ?_
  refine RL.ev (.move rfl) rfl rfl ?_
  refine RL.call rfl ok73 (c_appendSeq A na fa nc fc r hr L hL hl bA bR w (hA.sub S) (hbA.sub S) (hbR.sub S)) rfl rfl ?_
  rintro _ w1 ⟨s2, a1, c1, rfl, o⟩
  have o := o.low S.size
  have S := S.trans s2
  refine RL.ev (.assign rfl) rfl rfl ?_
  refine RL.nil (RC.back ?_)
  refine RC.done (rs := [.tmp 2]) (vs := [_]) rfl rfl ⟨rfl, trivial⟩ ?_
  -- end 1
  exact ⟨S, a1, c1, rfl, o⟩
theorem c_wAll (A : Ar) (na fa : Option Addr) (nc fc : Nat) (hnc : A.nodes.length ≤ nc) (hfc : A.free.length ≤ fc) (r : Int) (hr : U64 r) (w : World) (hA : ArR w na fa A) :
    FC Try.prog 21 [arV na fa nc fc A, .int .u64 r] w (fun v w' => Sub w w' ∧ ∃ a c rows e, v = .tuple #[.slice a rows.length c, .int .i64 e] ∧ Sl w' a 2 (rows.map It.cells) ∧ (¬ isTab A r → rows = [] ∧ e = 1) ∧ (isTab A r → rows = rowH A r ∧ e = 0)) := by
  have hNd := hA.nodes
  have hFr := hA.free
  refine FC.intro Try.func21 rfl Try.ntmps21 rfl ?_
  have S := Sub.refl w
  refine RC.seq ?_
  refine RC.region rfl ?_
  refine RL.box rfl rfl rfl (fun b_2 w_2 e_2 z_2 hb_2 s_2 => ?_)
  have ge_2 := S.le e_2
  have S := S.trans s_2
  have hb_2 : Has w_2 b_2 ([.slice na A.nodes.length nc, .slice fa A.free.length fc]) _ := hb_2
  refine RL.ev (.assign rfl) rfl rfl ?_
  refine RL.ev (.assign rfl) rfl rfl ?_
  refine RL.nil (RC.back ?_)
  refine RC.seq ?_
  refine RC.seq ?_
  refine RC.region rfl ?_
  refine RL.ev (.loadR ([.slice na A.nodes.length nc, .slice fa A.free.length fc]) sh34 rfl hb_2.row rfl) rfl rfl ?_
  refine RL.ev (.move rfl) rfl rfl ?_
  refine RL.call rfl ok42 (c_hRight A na fa nc fc hnc hfc r hr w_2 (hA.sub S)) rfl rfl ?_
  rintro _ w1 ⟨rfl, s2⟩
  have S := S.trans s2
  have hb_2 := hb_2.sub s2
  refine RL.ev (.not rfl) rfl rfl ?_
  refine RL.nil (RC.back ?_)
  refine RC.cond rfl (fun h3 => ?_) (fun h3 => ?_)
  ·
    have hno : ¬ isTab A r := (fun h => by have h2 := h3; rw [isTabB_yes h] at h2; cases h2)
    refine RC.seq ?_
    refine RC.region rfl ?_
    refine RL.ev (.assign rfl) rfl rfl ?_
    refine RL.ev (.assign rfl) rfl rfl ?_
    refine RL.nil (RC.back ?_)
    refine RC.done (rs := [.tmp 4, .tmp 5]) (vs := [_, _]) rfl rfl ⟨rfl, rfl, trivial⟩ ?_
    -- end 1
    exact ⟨S, none, 0, [], 1, rfl, Sl.nil _ _ _, fun _ => ⟨rfl, rfl⟩, fun h => absurd h hno⟩
  ·
    have hyes : isTab A r := (isTabB_iff A r).1 (by simpa using h3)
    obtain ⟨_, L, hT, hap, hl⟩ := id hyes
    refine RC.skip (RC.back ?_)
    refine RC.seq ?_
    refine RC.region rfl ?_
    refine RL.ev (.loadR ([.slice na A.nodes.length nc, .slice fa A.free.length fc]) sh34 rfl hb_2.row rfl) rfl rfl ?_
    refine RL.ev (.move rfl) rfl rfl ?_
    refine RL.call rfl ok49 (c_wleaves A na fa nc fc r w1) rfl rfl ?_
    rintro _ w4 ⟨bA, bR, rfl, hbA, hbR, s5⟩
    have S := S.trans s5
    have hb_2 := hb_2.sub s5
    refine RL.call rfl ok48 (c_collect A na fa nc fc r hr L hT hl bA bR w4 (hA.sub S) hbA hbR) rfl rfl ?_
    rintro _ w6 ⟨s7, a1, c1, rfl, o⟩
    have S := S.trans s7
    have hb_2 := hb_2.sub s7
    refine RL.ev (.assign rfl) rfl rfl ?_
    refine RL.ev (.assign rfl) rfl rfl ?_
    refine RL.nil (RC.back ?_)
    refine RC.done (rs := [.tmp 4, .tmp 5]) (vs := [_, _]) rfl rfl ⟨rfl, rfl, trivial⟩ ?_
    -- end 2
    exact ⟨S, a1, c1, rowH A r, 0, by rw [List.length_map]; rfl, o.sl.1, fun h => absurd hyes h, fun _ => ⟨rfl, rfl⟩⟩
end Go.Proofs.Ytbfjobmebkhblaa
