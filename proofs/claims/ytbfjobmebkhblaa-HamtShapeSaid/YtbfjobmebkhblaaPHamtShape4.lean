/-
  What the law HamtShape leans on, part 4.
-/
import Derived.Test.YtbfjobmebkhblaaPHamtShape3
set_option linter.unusedVariables false
set_option linter.unusedSimpArgs false
set_option maxRecDepth 4000
namespace Go.Proofs.Ytbfjobmebkhblaa
open Go Go.XL
theorem kids_set (kd g s : Int) (y : Node) (j : Nat) (hj : j < 9) {z : Int} (hz : y.kids[j]? = some z) : splice (hN kd g 0 0 s (y.kids.take j)).cells (5 + (j : Int).toNat * 1) [u6 z] = (hN kd g 0 0 s (y.kids.take (j + 1))).cells := by
  rcases j with _|_|_|_|_|_|_|_|_|j
  all_goals first | (cases hz; rfl) | omega
theorem len_cases {l : List It} (h0 : ¬ l.length = 0) (h1 : ¬ l.length = 1) : 2 ≤ l.length := by omega
set_option maxHeartbeats 1000000 in
theorem c_refIsT (A : Ar) (na fa : Option Addr) (nc fc : Nat) (hnl : A.nodes.length ≤ 1000000000) (k lv : Nat) (hk : k ≤ 9) (hlv : lv = 9 - k) (r : Int) (l : List It) (hap : Ap l) (a : Option Addr) (c m : Nat) (hm : m = l.length) (hr : U64 r) (hb : l.length ≤ 1000000) (w : World) (hA : ArR w na fa A) (hl : Sl w a 2 (l.map It.cells))
    (ih : ∀ (r' : Int) (l' : List It) (a' : Option Addr) (c' m' : Nat) (w' : World), Ap l' → m' = l'.length → U64 r' → l'.length ≤ 1000000 → ArR w' na fa A → Sl w' a' 2 (l'.map It.cells) → FC Try.prog 32 [arV na fa nc fc A, .int .u64 r', .slice a' m' c', .int .i64 ((lv + 1 : Nat) : Int)] w' (Val (.bool (isHB A k r' l')) w')) :
    FC Try.prog 32 [arV na fa nc fc A, .int .u64 r, .slice a m c, .int .i64 (lv : Int)] w (Val (.bool (isHB A (k + 1) r l)) w) := by
  subst hm
  have hf := atA_form A r
  have hNd := hA.nodes
  have hFr := hA.free
  have len0 : l.length = 0 → l = [] := List.eq_nil_of_length_eq_zero
  refine FC.intro Try.func32 rfl Try.ntmps32 rfl ?_
  have S := Sub.refl w
  refine RC.seq ?_
  refine RC.region rfl ?_
  refine RL.box rfl rfl rfl (fun b_4 w_4 e_4 z_4 hb_4 s_4 => ?_)
  have ge_4 := S.le e_4
  have S := S.trans s_4
  have hb_4 : Has w_4 b_4 ([.slice na A.nodes.length nc, .slice fa A.free.length fc]) _ := hb_4
  refine RL.ev (.assign rfl) rfl rfl ?_
  refine RL.nil (RC.back ?_)
  refine RC.seq ?_
  refine RC.seq ?_
  refine RC.region rfl ?_
  refine RL.ev (.move rfl) rfl rfl ?_
  refine RL.ev (.len sl26 rfl) rfl rfl ?_
  refine RL.ev (.bin rfl rfl rfl) rfl rfl ?_
  refine RL.nil (RC.back ?_)
  refine RC.cond_dec rfl (fun h1 => ?_) (fun h1 => ?_)
  ·
    have q0 : l = [] := len0 (by have := h1; omega)
    have hres : isHB A (k + 1) r l = decide (r = 0) := (by rw [q0]; exact isHB_nil _ _ _)
    refine RC.seq ?_
    refine RC.region rfl ?_
    refine RL.ev (.move rfl) rfl rfl ?_
    refine RL.ev (.bin rfl rfl rfl) rfl rfl ?_
    refine RL.ev (.assign rfl) rfl rfl ?_
    refine RL.nil (RC.back ?_)
    refine RC.done (rs := [.tmp 8]) (vs := [_]) rfl rfl ⟨rfl, trivial⟩ ?_
    -- end 1
    rw [hres]
    exact ⟨rfl, S⟩
  ·
    have q0 : ¬ l.length = 0 := (by have := h1; omega)
    refine RC.skip (RC.back ?_)
    refine RC.seq ?_
    refine RC.seq ?_
    refine RC.region rfl ?_
    refine RL.ev (.move rfl) rfl rfl ?_
    refine RL.ev (.len sl26 rfl) rfl rfl ?_
    refine RL.ev (.bin rfl rfl rfl) rfl rfl ?_
    refine RL.nil (RC.back ?_)
    refine RC.cond_dec rfl (fun h2 => ?_) (fun h2 => ?_)
    ·
      have q1 : l.length = 1 := (by have := h2; omega)
      obtain ⟨x, hx1⟩ := List.length_eq_one_iff.1 q1
      have hx : l[0]? = some x := (by rw [hx1]; rfl)
      have hres : isHB A (k + 1) r l = lfB A r x := (by rw [hx1]; exact isHB_one _ _ _ _)
      refine RC.seq ?_
      refine RC.draw rfl mxo (by kernel_rfl) ?_
      refine RQ.ev (.loadR ([.slice na A.nodes.length nc, .slice fa A.free.length fc]) sh34 rfl hb_4.row rfl) rfl rfl ?_
      refine RQ.ev (.move rfl) rfl rfl ?_
      refine RQ.ev (.move rfl) rfl rfl ?_
      refine RQ.ev (.indexS sl26 rfl rfl (by omega) (hl.is (i := 0) (by simp only [List.length_map, List.length_cons, List.length_nil]; omega))) rfl rfl ?_
      refine RQ.ev (.loadR (x.cells) sh29 rfl ((hl.sub S).rowAt (enc := It.cells) (i := 0) hx) rfl) rfl rfl ?_
      refine RQ.call rfl ok60 (fun w' s' => c_refLeaf A na fa nc fc hnl r hr x w' (hA.sub (S.trans s'))) rfl rfl ?_
      refine RQ.ev (.assign rfl) rfl rfl ?_
      refine RQ.nil (fun w3 s4 => RC.back ?_)
      have S := S.trans s4
      have hb_4 := hb_4.sub s4
      refine RC.done (rs := [.tmp 8]) (vs := [_]) rfl rfl ⟨rfl, trivial⟩ ?_
      -- end 2
      rw [hres]
      exact ⟨rfl, S⟩
    ·
      have q1 : 2 ≤ l.length := len_cases q0 (by have := h2; omega)
      refine RC.skip (RC.back ?_)
      refine RC.seq ?_
      refine RC.region rfl ?_
      refine RL.ev (.loadR ([.slice na A.nodes.length nc, .slice fa A.free.length fc]) sh34 rfl hb_4.row rfl) rfl rfl ?_
      refine RL.ev (.move rfl) rfl rfl ?_
      refine RL.call rfl ok61 (c_r4At A na fa nc fc r hr w_4 (hA.sub S) hnl) rfl rfl ?_
      rintro _ w5 ⟨rfl, s6⟩
      have S := S.trans s6
      have hb_4 := hb_4.sub s6
      refine RL.ev (.assign rfl) rfl rfl ?_
      refine RL.nil (RC.back ?_)
      refine RC.seq ?_
      refine RC.seq ?_
      refine RC.region rfl ?_
      refine RL.ev (.move rfl) rfl rfl ?_
      refine RL.ev (.bin rfl rfl rfl) rfl rfl ?_
      refine RL.nil (RC.back ?_)
      refine RC.cond_dec rfl (fun h7 => ?_) (fun h7 => ?_)
      ·
        have hres : isHB A (k + 1) r l = false := isHB_none q1 (hf.1 h7)
        refine RC.seq ?_
        refine RC.region rfl ?_
        refine RL.ev (.assign rfl) rfl rfl ?_
        refine RL.nil (RC.back ?_)
        refine RC.done (rs := [.tmp 8]) (vs := [_]) rfl rfl ⟨rfl, trivial⟩ ?_
        -- end 3
        rw [hres]
        exact ⟨rfl, S⟩
      ·
        obtain ⟨y, hy, hay⟩ := hf.2 h7
        have hrg := getA_rng hy
        have hyo := hA.nok y (getA_nok hy)
        have hti := trie_iff (k := k) q1 hy
        refine RC.skip (RC.back ?_)
        refine RC.seq ?_
        refine RC.region rfl ?_
        refine RL.ev (.field0 fo34_0 rfl) rfl rfl ?_
        refine RL.ev (.load1 sh31 rfl (hb_4.cell rfl)) rfl rfl ?_
        refine RL.ev (.as (v' := .int .i64 (placeR r)) (.move rfl) (by rw [hay])) rfl rfl ?_
        refine RL.ev (.indexS sl31 rfl rfl (by omega) (hNd.is (i := 0) (by simp only [List.length_map, List.length_cons, List.length_nil]; omega))) rfl rfl ?_
        refine RL.ev (.loadR (y.cells) sh97 rfl ((hNd.sub S).rowAt (enc := Node.cells) (getA_get hy).1) rfl) rfl rfl ?_
        refine RL.alloc ze97 rfl rfl (fun b_10 w_10 e_10 z_10 hb_10 s_10 => ?_)
        have ge_10 := S.le e_10
        have n_4__10 := hb_4.ne e_10
        have S := S.trans s_10
        have hb_4 := hb_4.sub s_10
        refine RL.store sh97 rfl rfl rfl hb_10 (by exact Nat.le_of_ble_eq_true rfl) (by rfl) rfl (fun w8 z8 hb_10 a8 => ?_)
        have S := S.upd a8 ge_10
        have hb_4 := hb_4.upd a8 n_4__10
        have hb_10 : Has w8 b_10 (y.cells) _ := hb_10.now (by kernel_rfl)
        refine RL.nil (RC.back ?_)
        refine RC.seq ?_
        refine RC.region rfl ?_
        refine RL.ev (.field0 fo97_1 rfl) rfl rfl ?_
        refine RL.ev (.load1 sh3 rfl (hb_10.cell rfl)) rfl rfl ?_
        refine RL.ev (.move rfl) rfl rfl ?_
        refine RL.ev (.len sl26 rfl) rfl rfl ?_
        refine RL.ev (.buildS ze97 pl97 rfl rfl) rfl rfl ?_
        refine RL.alloc ze97 rfl rfl (fun b_11 w_11 e_11 z_11 hb_11 s_11 => ?_)
        have ge_11 := S.le e_11
        have n_4__11 := hb_4.ne e_11
        have n_10__11 := hb_10.ne e_11
        have S := S.trans s_11
        have hb_4 := hb_4.sub s_11
        have hb_10 := hb_10.sub s_11
        refine RL.store sh97 rfl rfl rfl hb_11 (by exact Nat.le_of_ble_eq_true rfl) (by rfl) rfl (fun w9 z9 hb_11 a9 => ?_)
        have S := S.upd a9 ge_11
        have hb_4 := hb_4.upd a9 n_4__11
        have hb_10 := hb_10.upd a9 n_10__11
        have hb_11 : Has w9 b_11 ((hN 2 y.gen 0 0 l.length (y.kids.take 0)).cells) _ := hb_11.now (by kernel_rfl)
        refine RL.nil (RC.back ?_)
        refine RC.seq ?_
        refine RC.seq ?_
        refine RC.region rfl ?_
        refine RL.ev (.move rfl) rfl rfl ?_
        refine RL.ev (.as (v' := .bool true) (.bin rfl rfl rfl) (congrArg Value.bool (decide_eq_true (by omega)))) rfl rfl ?_
        refine RL.nil (RC.back ?_)
        refine RC.cond_t rfl ?_
        refine RC.seq ?_
        refine RC.seq ?_
        refine RC.region rfl ?_
        refine RL.ev (.assign rfl) rfl rfl ?_
        refine RL.nil (RC.back ?_)
        refine RC.block ?_
        refine RC.loop (α := Nat) (fun j => [(2, .slice a l.length c), (3, .int .i64 (lv : Int)), (4, .pointer (some ⟨b_4, 0, none⟩)), (10, .pointer (some ⟨b_10, 0, none⟩)), (11, .pointer (some ⟨b_11, 0, none⟩)), (12, .int .i64 (j : Int))]) (fun j w10 => (j ≤ 4 ∧ ∀ q, q < j → IsH A k (y.kids.getD q 0) (ofL (9 - k) q l)) ∧ Has w10 b_4 [.slice na A.nodes.length nc, .slice fa A.free.length fc] 34 ∧ Has w10 b_10 y.cells 97 ∧ Has w10 b_11 (hN 2 y.gen 0 0 l.length (y.kids.take j)).cells 97 ∧ Sub w w10) (fun j => 4 - j) 0 (keep_of (by repeat (first | exact trivial | refine And.intro rfl ?_))) (⟨⟨Nat.zero_le _, fun q h => absurd h (by omega)⟩, hb_4, hb_10, hb_11, S⟩) (fun j w10 hJ => ?_)
        obtain ⟨⟨hj, hq⟩, hb_4, hb_10, hb_11, S⟩ := hJ
        refine RC.seq ?_
        refine RC.seq ?_
        refine RC.region rfl ?_
        refine RL.ev (.move rfl) rfl rfl ?_
        refine RL.ev (.bin rfl rfl rfl) rfl rfl ?_
        refine RL.nil (RC.back ?_)
        refine RC.cond_dec rfl (fun h11 => ?_) (fun h11 => ?_)
        ·
          obtain ⟨z, hz⟩ := getSome (l := y.kids) (i := j) (by show j < 9; omega)
          have hzd := kid_get hz
          have hzu := hyo.kids z (List.mem_of_getElem? hz)
          have hj4 : j < 4 := (by omega)
          refine RC.skip (RC.back ?_)
          refine RC.seq ?_
          refine RC.block ?_
          refine RC.seq ?_
          refine RC.region rfl ?_
          refine RL.ev (.move rfl) rfl rfl ?_
          refine RL.ev (.move rfl) rfl rfl ?_
          refine RL.ev (.field0 fo97_5 rfl) rfl rfl ?_
          refine RL.ev (.indexArr ar95 rfl rfl (by omega)) rfl rfl ?_
          refine RL.ev (.load1 sh36 rfl (hb_10.cell (kid_cell hz))) rfl rfl ?_
          refine RL.ev (.field0 fo97_5 rfl) rfl rfl ?_
          refine RL.ev (.indexArr ar95 rfl rfl (by omega)) rfl rfl ?_
          refine RL.store sh36 rfl rfl rfl hb_11 (by show 5 + j * 1 + 1 ≤ 16; omega) (by rfl) rfl (fun w12 z12 hb_11 a12 => ?_)
          have S := S.upd a12 ge_11
          have hb_4 := hb_4.upd a12 n_4__11
          have hb_10 := hb_10.upd a12 n_10__11
          have hb_11 : Has w12 b_11 (hN 2 y.gen 0 0 l.length (y.kids.take (j + 1))).cells 97 := (by rw [← kids_set 2 y.gen l.length y j (by omega) hz]; exact hb_11)
          refine RL.nil (RC.back ?_)
          refine RC.seq ?_
          refine RC.drawD (fun k => False) [] w12.heap.size 13 rfl rfl mxo (fun w13 s14 => ?_)
          have hNN : ∀ k, ((False) ∨ w12.heap.size ≤ k) → w.heap.size ≤ k := fun k e => e.elim (fun e => e.elim) (fun e => Nat.le_trans S.size e)
          have ent_S := S.size
          have hN0 : ∀ k, w12.heap.size ≤ k → w.heap.size ≤ k := fun k e => Nat.le_trans S.size e
          have ltD_b_4 := hb_4.lt
          have ltD_b_10 := hb_10.lt
          have ltD_b_11 := hb_11.lt
          have szD := Nat.le_refl w12.heap.size
          have S := S.trans s14
          have hb_4 := hb_4.sub s14
          have hb_10 := hb_10.sub s14
          have hb_11 := hb_11.sub s14
          have szD := Nat.le_trans szD s14.size
          refine RD.take 0 rfl (by kernel_rfl) (by kernel_rfl) (by kernel_rfl) (fun w' s' => .loadR ([.slice na A.nodes.length nc, .slice fa A.free.length fc]) sh34 rfl (hb_4.step s' (fun e => e.elim (fun e => e.elim) (fun e => Nat.not_le.2 ltD_b_4 e))).row rfl) rfl rfl ?_
          refine RD.take 1 rfl (by kernel_rfl) (by kernel_rfl) (by kernel_rfl) (fun w' s' => .move rfl) rfl rfl ?_
          refine RD.take 2 rfl (by kernel_rfl) (by kernel_rfl) (by kernel_rfl) (fun w' s' => .field0 fo97_5 rfl) rfl rfl ?_
          refine RD.take 3 rfl (by kernel_rfl) (by kernel_rfl) (by kernel_rfl) (fun w' s' => .indexArr ar95 rfl rfl (by omega)) rfl rfl ?_
          refine RD.take 4 rfl (by kernel_rfl) (by kernel_rfl) (by kernel_rfl) (fun w' s' => .load1 sh36 rfl ((hb_10.step s' (fun e => e.elim (fun e => e.elim) (fun e => Nat.not_le.2 ltD_b_10 e))).cell (kid_cell hz))) rfl rfl ?_
          refine RD.take 5 rfl (by kernel_rfl) (by kernel_rfl) (by kernel_rfl) (fun w' s' => .move rfl) rfl rfl ?_
          refine RD.take 6 rfl (by kernel_rfl) (by kernel_rfl) (by kernel_rfl) (fun w' s' => .move rfl) rfl rfl ?_
          refine RD.take 7 rfl (by kernel_rfl) (by kernel_rfl) (by kernel_rfl) (fun w' s' => .move rfl) rfl rfl ?_
          refine RD.take 9 rfl (by kernel_rfl) (by kernel_rfl) (by kernel_rfl) (fun w' s' => .move rfl) rfl rfl ?_
          refine RD.take 10 rfl (by kernel_rfl) (by kernel_rfl) (by kernel_rfl) (fun w' s' => .as (.bin rfl rfl rfl) (wi64 (y := ((lv + 1 : Nat) : Int)) (by omega) (by omega))) rfl rfl ?_
          refine RD.all [8] (by kernel_rfl) rfl (RDs.cons rfl ?_ (RDs.nil))
          refine RL.call rfl ok62 (c_refOf9 l a c l.length rfl lv j (by omega) w13 (hl.sub S) hb) rfl rfl ?_
          rintro _ w15 ⟨a1, c1, rfl, o1, s16⟩
          have S := S.trans s16
          have hb_4 := hb_4.sub s16
          have hb_10 := hb_10.sub s16
          have hb_11 := hb_11.sub s16
          have szD := Nat.le_trans szD s16.size
          refine RD.back s16.agr ?_
          refine RD.all [11] (by kernel_rfl) rfl (RDs.cons rfl ?_ (RDs.nil))
          refine RL.call rfl ok32 (ih z (ofL lv j l) a1 c1 _ w15 (hap.of _ _) (List.length_map _) hzu (Nat.le_trans (ofL_len _ _ _) hb) (hA.sub S) o1.sl.1) rfl rfl ?_
          rintro _ w17 ⟨rfl, s18⟩
          have S := S.trans s18
          have hb_4 := hb_4.sub s18
          have hb_10 := hb_10.sub s18
          have hb_11 := hb_11.sub s18
          have szD := Nat.le_trans szD s18.size
          refine RD.back s18.agr ?_
          refine RD.take 12 rfl (by kernel_rfl) (by kernel_rfl) (by kernel_rfl) (fun w' s' => .not rfl) rfl rfl ?_
          refine RD.done (by kernel_rfl) (RC.back ?_)
          refine RC.cond rfl (fun h19 => ?_) (fun h19 => ?_)
          ·
            have hres : isHB A (k + 1) r l = false := isHB_no (fun h => by have h2 := (hti.1 h).2 j hj4; rw [hzd, ← hlv] at h2; have h3 := h19; rw [isHB_yes h2] at h3; cases h3)
            refine RC.seq ?_
            refine RC.region rfl ?_
            refine RL.ev (.assign rfl) rfl rfl ?_
            refine RL.nil (RC.back ?_)
            refine RC.done (rs := [.tmp 8]) (vs := [_]) rfl rfl ⟨rfl, trivial⟩ ?_
            -- end 4
            rw [hres]
            exact ⟨rfl, S⟩
          ·
            have hz1 : IsH A k z (ofL lv j l) := (isHB_iff _ _ _ _).1 (by simpa using h19)
            refine RC.skip (RC.back ?_)
            refine RC.region rfl ?_
            refine RL.ev (.move rfl) rfl rfl ?_
            refine RL.ev (.as (.bin rfl rfl rfl) (wi64 (y := ((j + 1 : Nat) : Int)) (by omega) (by omega))) rfl rfl ?_
            refine RL.ev (.assign rfl) rfl rfl ?_
            exact RL.nil (fun a ka => ⟨j + 1, ⟨⟨by omega, fun q hq' => by by_cases e : q = j; (rw [e, hzd, ← hlv]; exact hz1); exact hq q (by omega)⟩, hb_4, hb_10, hb_11, S⟩, by omega, ka.keep (keep_of (by repeat (first | exact trivial | refine And.intro rfl ?_)))⟩)
        ·
          obtain rfl : j = 4 := (by omega)
          refine RC.exit rfl (RC.back ?_)
          refine RC.seq ?_
          refine RC.region rfl ?_
          refine RL.ev (.loadR (y.cells) sh97 rfl hb_10.row rfl) rfl rfl ?_
          refine RL.ev (.loadR (_) sh97 rfl hb_11.row rfl) rfl rfl ?_
          refine RL.ev (.eqS (xs := _) (ys := _) fk97 eg97 sh97 rfl rfl rfl rfl rfl) rfl rfl ?_
          refine RL.ev (.assign rfl) rfl rfl ?_
          refine RL.nil (RC.back ?_)
          refine RC.done (rs := [.tmp 8]) (vs := [_]) rfl rfl ⟨rfl, trivial⟩ ?_
          -- end 5
          refine ⟨congrArg Value.bool ?_, S⟩
          rw [eqL_cells, Bool.eq_iff_iff, isHB_iff, decide_eq_true_iff, hti]
          exact ⟨fun h => ⟨h, hq⟩, fun h => h.1⟩
set_option maxHeartbeats 1000000 in
theorem c_refIsC (A : Ar) (na fa : Option Addr) (nc fc : Nat) (hnl : A.nodes.length ≤ 1000000000) (r : Int) (l : List It) (hap : Ap l) (a : Option Addr) (c m : Nat) (hm : m = l.length) (hr : U64 r) (hb : l.length ≤ 1000000) (w : World) (hA : ArR w na fa A) (hl : Sl w a 2 (l.map It.cells)) :
    FC Try.prog 32 [arV na fa nc fc A, .int .u64 r, .slice a m c, .int .i64 10] w (Val (.bool (isHB A 0 r l)) w) := by
  subst hm
  have hf := atA_form A r
  have hNd := hA.nodes
  have hFr := hA.free
  have len0 : l.length = 0 → l = [] := List.eq_nil_of_length_eq_zero
  obtain ⟨ms, hmp, hms⟩ := srt_exists hap
  have hmpl := hmp.length_eq
  refine FC.intro Try.func32 rfl Try.ntmps32 rfl ?_
  have S := Sub.refl w
  refine RC.seq ?_
  refine RC.region rfl ?_
  refine RL.box rfl rfl rfl (fun b_4 w_4 e_4 z_4 hb_4 s_4 => ?_)
  have ge_4 := S.le e_4
  have S := S.trans s_4
  have hb_4 : Has w_4 b_4 ([.slice na A.nodes.length nc, .slice fa A.free.length fc]) _ := hb_4
  refine RL.ev (.assign rfl) rfl rfl ?_
  refine RL.nil (RC.back ?_)
  refine RC.seq ?_
  refine RC.seq ?_
  refine RC.region rfl ?_
  refine RL.ev (.move rfl) rfl rfl ?_
  refine RL.ev (.len sl26 rfl) rfl rfl ?_
  refine RL.ev (.bin rfl rfl rfl) rfl rfl ?_
  refine RL.nil (RC.back ?_)
  refine RC.cond_dec rfl (fun h1 => ?_) (fun h1 => ?_)
  ·
    have q0 : l = [] := len0 (by have := h1; omega)
    have hres : isHB A 0 r l = decide (r = 0) := (by rw [q0]; exact isHB_nil _ _ _)
    refine RC.seq ?_
    refine RC.region rfl ?_
    refine RL.ev (.move rfl) rfl rfl ?_
    refine RL.ev (.bin rfl rfl rfl) rfl rfl ?_
    refine RL.ev (.assign rfl) rfl rfl ?_
    refine RL.nil (RC.back ?_)
    refine RC.done (rs := [.tmp 8]) (vs := [_]) rfl rfl ⟨rfl, trivial⟩ ?_
    -- end 1
    rw [hres]
    exact ⟨rfl, S⟩
  ·
    have q0 : ¬ l.length = 0 := (by have := h1; omega)
    refine RC.skip (RC.back ?_)
    refine RC.seq ?_
    refine RC.seq ?_
    refine RC.region rfl ?_
    refine RL.ev (.move rfl) rfl rfl ?_
    refine RL.ev (.len sl26 rfl) rfl rfl ?_
    refine RL.ev (.bin rfl rfl rfl) rfl rfl ?_
    refine RL.nil (RC.back ?_)
    refine RC.cond_dec rfl (fun h2 => ?_) (fun h2 => ?_)
    ·
      have q1 : l.length = 1 := (by have := h2; omega)
      obtain ⟨x, hx1⟩ := List.length_eq_one_iff.1 q1
      have hx : l[0]? = some x := (by rw [hx1]; rfl)
      have hres : isHB A 0 r l = lfB A r x := (by rw [hx1]; exact isHB_one _ _ _ _)
      refine RC.seq ?_
      refine RC.draw rfl mxo (by kernel_rfl) ?_
      refine RQ.ev (.loadR ([.slice na A.nodes.length nc, .slice fa A.free.length fc]) sh34 rfl hb_4.row rfl) rfl rfl ?_
      refine RQ.ev (.move rfl) rfl rfl ?_
      refine RQ.ev (.move rfl) rfl rfl ?_
      refine RQ.ev (.indexS sl26 rfl rfl (by omega) (hl.is (i := 0) (by simp only [List.length_map, List.length_cons, List.length_nil]; omega))) rfl rfl ?_
      refine RQ.ev (.loadR (x.cells) sh29 rfl ((hl.sub S).rowAt (enc := It.cells) (i := 0) hx) rfl) rfl rfl ?_
      refine RQ.call rfl ok60 (fun w' s' => c_refLeaf A na fa nc fc hnl r hr x w' (hA.sub (S.trans s'))) rfl rfl ?_
      refine RQ.ev (.assign rfl) rfl rfl ?_
      refine RQ.nil (fun w3 s4 => RC.back ?_)
      have S := S.trans s4
      have hb_4 := hb_4.sub s4
      refine RC.done (rs := [.tmp 8]) (vs := [_]) rfl rfl ⟨rfl, trivial⟩ ?_
      -- end 2
      rw [hres]
      exact ⟨rfl, S⟩
    ·
      have q1 : 2 ≤ l.length := len_cases q0 (by have := h2; omega)
      refine RC.skip (RC.back ?_)
      refine RC.seq ?_
      refine RC.region rfl ?_
      refine RL.ev (.loadR ([.slice na A.nodes.length nc, .slice fa A.free.length fc]) sh34 rfl hb_4.row rfl) rfl rfl ?_
      refine RL.ev (.move rfl) rfl rfl ?_
      refine RL.call rfl ok61 (c_r4At A na fa nc fc r hr w_4 (hA.sub S) hnl) rfl rfl ?_
      rintro _ w5 ⟨rfl, s6⟩
      have S := S.trans s6
      have hb_4 := hb_4.sub s6
      refine RL.ev (.assign rfl) rfl rfl ?_
      refine RL.nil (RC.back ?_)
      refine RC.seq ?_
      refine RC.seq ?_
      refine RC.region rfl ?_
      refine RL.ev (.move rfl) rfl rfl ?_
      refine RL.ev (.bin rfl rfl rfl) rfl rfl ?_
      refine RL.nil (RC.back ?_)
      refine RC.cond_dec rfl (fun h7 => ?_) (fun h7 => ?_)
      ·
        have hres : isHB A 0 r l = false := isHB_none q1 (hf.1 h7)
        refine RC.seq ?_
        refine RC.region rfl ?_
        refine RL.ev (.assign rfl) rfl rfl ?_
        refine RL.nil (RC.back ?_)
        refine RC.done (rs := [.tmp 8]) (vs := [_]) rfl rfl ⟨rfl, trivial⟩ ?_
        -- end 3
        rw [hres]
        exact ⟨rfl, S⟩
      ·
        obtain ⟨y, hy, hay⟩ := hf.2 h7
        have hrg := getA_rng hy
        have hyo := hA.nok y (getA_nok hy)
        have hci := clash_iff q1 hmp hms hy
        refine RC.skip (RC.back ?_)
        refine RC.seq ?_
        refine RC.region rfl ?_
        refine RL.ev (.field0 fo34_0 rfl) rfl rfl ?_
        refine RL.ev (.load1 sh31 rfl (hb_4.cell rfl)) rfl rfl ?_
        refine RL.ev (.as (v' := .int .i64 (placeR r)) (.move rfl) (by rw [hay])) rfl rfl ?_
        refine RL.ev (.indexS sl31 rfl rfl (by omega) (hNd.is (i := 0) (by simp only [List.length_map, List.length_cons, List.length_nil]; omega))) rfl rfl ?_
        refine RL.ev (.loadR (y.cells) sh97 rfl ((hNd.sub S).rowAt (enc := Node.cells) (getA_get hy).1) rfl) rfl rfl ?_
        refine RL.alloc ze97 rfl rfl (fun b_10 w_10 e_10 z_10 hb_10 s_10 => ?_)
        have ge_10 := S.le e_10
        have n_4__10 := hb_4.ne e_10
        have S := S.trans s_10
        have hb_4 := hb_4.sub s_10
        refine RL.store sh97 rfl rfl rfl hb_10 (by exact Nat.le_of_ble_eq_true rfl) (by rfl) rfl (fun w8 z8 hb_10 a8 => ?_)
        have S := S.upd a8 ge_10
        have hb_4 := hb_4.upd a8 n_4__10
        have hb_10 : Has w8 b_10 (y.cells) _ := hb_10.now (by kernel_rfl)
        refine RL.nil (RC.back ?_)
        refine RC.seq ?_
        refine RC.region rfl ?_
        refine RL.ev (.field0 fo97_1 rfl) rfl rfl ?_
        refine RL.ev (.load1 sh3 rfl (hb_10.cell rfl)) rfl rfl ?_
        refine RL.ev (.move rfl) rfl rfl ?_
        refine RL.ev (.len sl26 rfl) rfl rfl ?_
        refine RL.ev (.buildS ze97 pl97 rfl rfl) rfl rfl ?_
        refine RL.alloc ze97 rfl rfl (fun b_11 w_11 e_11 z_11 hb_11 s_11 => ?_)
        have ge_11 := S.le e_11
        have n_4__11 := hb_4.ne e_11
        have n_10__11 := hb_10.ne e_11
        have S := S.trans s_11
        have hb_4 := hb_4.sub s_11
        have hb_10 := hb_10.sub s_11
        refine RL.store sh97 rfl rfl rfl hb_11 (by exact Nat.le_of_ble_eq_true rfl) (by rfl) rfl (fun w9 z9 hb_11 a9 => ?_)
        have S := S.upd a9 ge_11
        have hb_4 := hb_4.upd a9 n_4__11
        have hb_10 := hb_10.upd a9 n_10__11
        have hb_11 : Has w9 b_11 ((hN 2 y.gen 0 0 l.length (y.kids.take 0)).cells) _ := hb_11.now (by kernel_rfl)
        refine RL.nil (RC.back ?_)
        refine RC.seq ?_
        refine RC.seq ?_
        refine RC.region rfl ?_
        refine RL.ev (.move rfl) rfl rfl ?_
        refine RL.ev (.as (v' := .bool false) (.bin rfl rfl rfl) (congrArg Value.bool (decide_eq_false (by decide)))) rfl rfl ?_
        refine RL.nil (RC.back ?_)
        refine RC.cond_f rfl ?_
        refine RC.skip (RC.back ?_)
        refine RC.seq ?_
        refine RC.seq ?_
        refine RC.region rfl ?_
        refine RL.ev (.move rfl) rfl rfl ?_
        refine RL.ev (.len sl26 rfl) rfl rfl ?_
        refine RL.ev (.bin rfl rfl rfl) rfl rfl ?_
        refine RL.nil (RC.back ?_)
        refine RC.cond_dec rfl (fun h10 => ?_) (fun h10 => ?_)
        ·
          have hres : isHB A 0 r l = false := isHB_no (fun h => by have := (hci.1 h).1; have := h10; omega)
          refine RC.seq ?_
          refine RC.region rfl ?_
          refine RL.ev (.assign rfl) rfl rfl ?_
          refine RL.nil (RC.back ?_)
          refine RC.done (rs := [.tmp 8]) (vs := [_]) rfl rfl ⟨rfl, trivial⟩ ?_
          -- end 4
          rw [hres]
          exact ⟨rfl, S⟩
        ·
          have q9 : l.length ≤ 9 := (by have := h10; omega)
          refine RC.skip (RC.back ?_)
          refine RC.seq ?_
          refine RC.region rfl ?_
          refine RL.ev (.field0 fo97_0 rfl) rfl rfl ?_
          refine RL.store sh3 rfl rfl rfl hb_11 (by exact Nat.le_of_ble_eq_true rfl) (by rfl) rfl (fun w11 z11 hb_11 a11 => ?_)
          have S := S.upd a11 ge_11
          have hb_4 := hb_4.upd a11 n_4__11
          have hb_10 := hb_10.upd a11 n_10__11
          have hb_11 : Has w11 b_11 ((hN 4 y.gen 0 0 l.length (y.kids.take 0)).cells) _ := hb_11
          refine RL.nil (RC.back ?_)
          refine RC.seq ?_
          refine RC.region rfl ?_
          refine RL.buildSlice0 sl26 rfl rfl (fun b_79 w_79 e_79 z_79 hb_79 s_79 => ?_)
          have ge_79 := S.le e_79
          have n_4__79 := hb_4.ne e_79
          have n_10__79 := hb_10.ne e_79
          have n_11__79 := hb_11.ne e_79
          have S := S.trans s_79
          have hb_4 := hb_4.sub s_79
          have hb_10 := hb_10.sub s_79
          have hb_11 := hb_11.sub s_79
          refine RL.ev (.assign rfl) rfl rfl ?_
          refine RL.nil (RC.back ?_)
          refine RC.seq ?_
          refine RC.region rfl ?_
          refine RL.ev (.move rfl) rfl rfl ?_
          refine RL.ev (.move rfl) rfl rfl ?_
          have sz_82 := S.size
          have ltb_4_82 := hb_4.lt
          have ltb_10_82 := hb_10.lt
          have ltb_11_82 := hb_11.lt
          have ltb_79_82 := hb_79.lt
          refine RL.append2 (base := w.heap.size) (rows := []) (news := l.map It.cells) sl26 ze29 rfl rfl rfl rfl (.inl (Ows.lit0 hb_79 (by omega))) (hl.sub S) (by (try simp only [List.length_map]); first | done | rfl) (by intro r hr; obtain ⟨x, _, rfl⟩ := List.mem_map.1 hr; rfl) (by rw [List.all_eq_true]; intro r hr; obtain ⟨x, _, rfl⟩ := List.mem_map.1 hr; rfl) (by (try simp only [List.length_map, List.length_nil, List.length_append, List.length_cons]); omega) (by (try simp only [List.length_map, List.length_nil, List.length_append, List.length_cons]); omega) (by omega) rfl rfl (fun v_82 w_82 hc_82 ho_82 ag_82 ob_82 => ?_)
          have o82 := ho_82 (.inr (Ows.lit0 hb_79 (by omega)))
          have d_o82_b_4 := obNe ob_82 (fun k hk e => n_4__79.symm ((obLit hk).trans e)) hb_4.lt
          have d_o82_b_10 := obNe ob_82 (fun k hk e => n_10__79.symm ((obLit hk).trans e)) hb_10.lt
          have d_o82_b_11 := obNe ob_82 (fun k hk e => n_11__79.symm ((obLit hk).trans e)) hb_11.lt
          have S := S.agrN ag_82 (fun k e => Nat.le_trans (by omega) e.2)
          have hb_4 := hb_4.step ag_82 (fun e => n_4__79.symm (obLit e.1))
          have hb_10 := hb_10.step ag_82 (fun e => n_10__79.symm (obLit e.1))
          have hb_11 := hb_11.step ag_82 (fun e => n_11__79.symm (obLit e.1))
          obtain ⟨a_82, c_82, rfl, k_82⟩ := o82.form
          refine RL.ev (.assign rfl) rfl rfl ?_
          rw [List.nil_append] at o82
          refine RL.nil (RC.back ?_)
          refine RC.seq ?_
          refine RC.seq ?_
          refine RC.region rfl ?_
          refine RL.ev (.move rfl) rfl rfl ?_
          refine RL.ev (.len sl26 rfl) rfl rfl ?_
          refine RL.ev (.move rfl) rfl rfl ?_
          refine RL.nil (RC.back ?_)
          refine RC.block ?_
          refine RC.loop (α := Nat × List It × Option Addr × Nat × Nat) (fun x => [(4, .pointer (some ⟨b_4, 0, none⟩)), (10, .pointer (some ⟨b_10, 0, none⟩)), (11, .pointer (some ⟨b_11, 0, none⟩)), (13, .slice x.2.2.1 x.2.2.2.1 x.2.2.2.2), (84, .int .i64 (l.length : Int)), (85, .int .i64 (x.1 : Int))]) (fun x w12 => (x.1 ≤ l.length ∧ x.2.1.Perm (ms.drop x.1) ∧ ∀ j z, j < x.1 → ms[j]? = some z → lfA A (y.kids.getD j 0) z) ∧ Ows w.heap.size w12 29 2 (.slice x.2.2.1 x.2.2.2.1 x.2.2.2.2) (x.2.1.map It.cells) ∧ Has w12 b_4 [.slice na A.nodes.length nc, .slice fa A.free.length fc] 34 ∧ Has w12 b_10 y.cells 97 ∧ Has w12 b_11 (hN 4 y.gen 0 0 l.length (y.kids.take x.1)).cells 97 ∧ (∀ k, ob (.slice x.2.2.1 x.2.2.2.1 x.2.2.2.2) = some k → k ≠ b_4 ∧ k ≠ b_10 ∧ k ≠ b_11) ∧ Sub w w12) (fun x => l.length - x.1) (0, l, a_82, _, c_82) (keep_of (by repeat (first | exact trivial | refine And.intro rfl ?_))) (⟨⟨Nat.zero_le _, hmp.symm, fun j z h => absurd h (by simp only []; omega)⟩, o82, hb_4, hb_10, hb_11, fun k hk => ⟨d_o82_b_4 k hk, d_o82_b_10 k hk, d_o82_b_11 k hk⟩, S⟩) (fun x w12 hJ => ?_)
          obtain ⟨i, rest, ar, mr, cr⟩ := x; obtain ⟨⟨hi, hrp, hlo⟩, o, hb_4, hb_10, hb_11, dd, S⟩ := hJ; simp only [] at hi hrp hlo o hb_11 dd; obtain rfl := o.sl.2; have szB := S.size; have hrl := hrp.length_eq; rw [List.length_drop] at hrl; have dd4 : ∀ k, ob (.slice ar (rest.map It.cells).length cr) = some k → k ≠ b_4 := fun k hk => (dd k hk).1; have dd10 : ∀ k, ob (.slice ar (rest.map It.cells).length cr) = some k → k ≠ b_10 := fun k hk => (dd k hk).2.1; have dd11 : ∀ k, ob (.slice ar (rest.map It.cells).length cr) = some k → k ≠ b_11 := fun k hk => (dd k hk).2.2
          refine RC.seq ?_
          refine RC.region rfl ?_
          refine RL.ev (.bin rfl rfl rfl) rfl rfl ?_
          refine RL.nil (RC.back ?_)
          refine RC.seq ?_
          refine RC.cond_dec rfl (fun h13 => ?_) (fun h13 => ?_)
          ·
            have h86 := h13
            simp only [] at h86
            have hi9 : i < 9 := (by omega)
            obtain ⟨z, hz⟩ := getSome (l := y.kids) (i := i) hi9
            have hzd := kid_get hz
            have hzu := hyo.kids z (List.mem_of_getElem? hz)
            refine RC.skip (RC.back ?_)
            refine RC.seq ?_
            refine RC.block ?_
            refine RC.seq ?_
            refine RC.region rfl ?_
            refine RL.ev (.move rfl) rfl rfl ?_
            refine RL.ev (.assign rfl) rfl rfl ?_
            refine RL.nil (RC.back ?_)
            refine RC.seq ?_
            refine RC.region rfl ?_
            refine RL.ev (.move rfl) rfl rfl ?_
            refine RL.ev (.move rfl) rfl rfl ?_
            refine RL.ev (.field0 fo97_5 rfl) rfl rfl ?_
            refine RL.ev (.indexArr ar95 rfl rfl (by omega)) rfl rfl ?_
            refine RL.ev (.load1 sh36 rfl (hb_10.cell (kid_cell hz))) rfl rfl ?_
            refine RL.ev (.field0 fo97_5 rfl) rfl rfl ?_
            refine RL.ev (.indexArr ar95 rfl rfl (by omega)) rfl rfl ?_
            refine RL.store sh36 rfl rfl rfl hb_11 (by show 5 + i * 1 + 1 ≤ 16; omega) (by rfl) rfl (fun w14 z14 hb_11 a14 => ?_)
            have S := S.upd a14 ge_11
            have o := o.updD a14 dd11
            have hb_4 := hb_4.upd a14 n_4__11
            have hb_10 := hb_10.upd a14 n_10__11
            have szB := Nat.le_trans szB a14.size
            have hb_11 : Has w14 b_11 (hN 4 y.gen 0 0 l.length (y.kids.take (i + 1))).cells 97 := (by rw [← kids_set 4 y.gen l.length y i hi9 hz]; exact hb_11)
            refine RL.nil (RC.back ?_)
            refine RC.seq ?_
            refine RC.region rfl ?_
            refine RL.ev (.move rfl) rfl rfl ?_
            refine RL.call rfl ok63 (c_refLeast rest ar cr _ (List.length_map _) (by omega) w14 o.sl.1 (by omega)) rfl rfl ?_
            rintro _ w15 ⟨s16, n, x, rfl, hn, hle⟩
            have S := S.trans s16
            have o := o.sub s16
            have hb_4 := hb_4.sub s16
            have hb_10 := hb_10.sub s16
            have hb_11 := hb_11.sub s16
            have szB := Nat.le_trans szB s16.size
            obtain ⟨hmi, hrp2⟩ := least_is hms hrp hn hle
            have hnl2 := lt_of_get hn
            refine RL.ev (.assign rfl) rfl rfl ?_
            refine RL.nil (RC.back ?_)
            refine RC.seq ?_
            refine RC.seq ?_
            refine RC.draw rfl mxo (by kernel_rfl) ?_
            refine RQ.ev (.loadR ([.slice na A.nodes.length nc, .slice fa A.free.length fc]) sh34 rfl hb_4.row rfl) rfl rfl ?_
            refine RQ.ev (.move rfl) rfl rfl ?_
            refine RQ.ev (.field0 fo97_5 rfl) rfl rfl ?_
            refine RQ.ev (.indexArr ar95 rfl rfl (by omega)) rfl rfl ?_
            refine RQ.ev (.load1 sh36 rfl (hb_10.cell (kid_cell hz))) rfl rfl ?_
            refine RQ.ev (.move rfl) rfl rfl ?_
            refine RQ.ev (.move rfl) rfl rfl ?_
            refine RQ.ev (.indexS sl26 rfl rfl (by refine ⟨by omega, ?_⟩; show (n : Int) < ((rest.map It.cells).length : Nat); rw [List.length_map]; omega) (o.sl.1.is (i := 0) (by simp only [List.length_map, List.length_cons, List.length_nil]; omega))) rfl rfl ?_
            refine RQ.ev (.loadR (x.cells) sh29 rfl ((o.sl.1).rowAt (enc := It.cells) (i := n) hn) rfl) rfl rfl ?_
            refine RQ.call rfl ok60 (fun w' s' => c_refLeaf A na fa nc fc hnl z hzu x w' (hA.sub (S.trans s'))) rfl rfl ?_
            refine RQ.ev (.not rfl) rfl rfl ?_
            refine RQ.nil (fun w17 s18 => RC.back ?_)
            have S := S.trans s18
            have o := o.sub s18
            have hb_4 := hb_4.sub s18
            have hb_10 := hb_10.sub s18
            have hb_11 := hb_11.sub s18
            have szB := Nat.le_trans szB s18.size
            refine RC.cond rfl (fun h19 => ?_) (fun h19 => ?_)
            ·
              have hres : isHB A 0 r l = false := isHB_no (fun h => by have h2 := (hci.1 h).2.2 i x hmi; rw [hzd] at h2; have h3 := h19; rw [(lfB_iff _ _ _).2 h2] at h3; cases h3)
              refine RC.seq ?_
              refine RC.region rfl ?_
              refine RL.ev (.assign rfl) rfl rfl ?_
              refine RL.nil (RC.back ?_)
              refine RC.done (rs := [.tmp 8]) (vs := [_]) rfl rfl ⟨rfl, trivial⟩ ?_
              -- end 5
              rw [hres]
              exact ⟨rfl, S⟩
            ·
              have hlx : lfA A z x := (lfB_iff _ _ _).1 (by simpa using h19)
              have hcr : rest.length ≤ cr := (by obtain ⟨_, c', e, h⟩ := o.form; cases e; rw [List.length_map] at h; exact h)
              have ht1 : (rest.take n).length = n := (by rw [List.length_take]; omega)
              have ht2 : (rest.drop (n + 1)).length = rest.length - (n + 1) := List.length_drop
              refine RC.skip (RC.back ?_)
              refine RC.seq ?_
              refine RC.region rfl ?_
              refine RL.buildSlice0 sl26 rfl rfl (fun b_108 w_108 e_108 z_108 hb_108 s_108 => ?_)
              have ge_108 := S.le e_108
              have n_4__108 := hb_4.ne e_108
              have n_10__108 := hb_10.ne e_108
              have n_11__108 := hb_11.ne e_108
              have d_o_b_108 := o.neNew e_108
              have S := S.trans s_108
              have o := o.sub s_108
              have hb_4 := hb_4.sub s_108
              have hb_10 := hb_10.sub s_108
              have hb_11 := hb_11.sub s_108
              have szB := Nat.le_trans szB s_108.size
              refine RL.ev (.assign rfl) rfl rfl ?_
              refine RL.nil (RC.back ?_)
              refine RC.seq ?_
              refine RC.region rfl ?_
              refine RL.ev (.move rfl) rfl rfl ?_
              refine RL.ev (.move rfl) rfl rfl ?_
              refine RL.ev (.move rfl) rfl rfl ?_
              refine RL.ev (.as (v' := .slice ar (rest.take n).length cr) (.sliceHi sl26 rfl rfl (by simp only []; omega)) (by rw [List.length_take, Nat.min_eq_left (by omega)]; rfl)) rfl rfl ?_
              have sz_113 := S.size
              have ltb_4_113 := hb_4.lt
              have ltb_10_113 := hb_10.lt
              have ltb_11_113 := hb_11.lt
              have ltb_108_113 := hb_108.lt
              refine RL.append2 (base := w.heap.size) (rows := []) (news := (rest.take n).map It.cells) sl26 ze29 rfl rfl rfl rfl (.inl (Ows.lit0 hb_108 (by omega))) (slTakeM o.sl.1 n) (by (try simp only [List.length_map]); first | done | rfl) (by intro r hr; obtain ⟨x, _, rfl⟩ := List.mem_map.1 hr; rfl) (by rw [List.all_eq_true]; intro r hr; obtain ⟨x, _, rfl⟩ := List.mem_map.1 hr; rfl) (by (try simp only [List.length_map, List.length_nil, List.length_append, List.length_cons]); omega) (by (try simp only [List.length_map, List.length_nil, List.length_append, List.length_cons]); omega) (by omega) rfl rfl (fun v_113 w_113 hc_113 ho_113 ag_113 ob_113 => ?_)
              have o113 := ho_113 (.inr (Ows.lit0 hb_108 (by omega)))
              have dd_o113_o := obDD ob_113 (fun k hk h2 => d_o_b_108 k h2 (obLit hk).symm) (fun k hk => (o.ge k hk).2)
              have d_o113_b_4 := obNe ob_113 (fun k hk e => n_4__108.symm ((obLit hk).trans e)) hb_4.lt
              have d_o113_b_10 := obNe ob_113 (fun k hk e => n_10__108.symm ((obLit hk).trans e)) hb_10.lt
              have d_o113_b_11 := obNe ob_113 (fun k hk e => n_11__108.symm ((obLit hk).trans e)) hb_11.lt
              have S := S.agrN ag_113 (fun k e => Nat.le_trans (by omega) e.2)
              have o := o.step ag_113 (fun k hk e => (fun k hk h2 => d_o_b_108 k h2 (obLit hk).symm) k e.1 hk)
              have hb_4 := hb_4.step ag_113 (fun e => n_4__108.symm (obLit e.1))
              have hb_10 := hb_10.step ag_113 (fun e => n_10__108.symm (obLit e.1))
              have hb_11 := hb_11.step ag_113 (fun e => n_11__108.symm (obLit e.1))
              have szB := Nat.le_trans szB ag_113.size
              obtain ⟨a_113, c_113, rfl, k_113⟩ := o113.form
              refine RL.ev (.assign rfl) rfl rfl ?_
              rw [List.nil_append] at o113
              refine RL.nil (RC.back ?_)
              refine RC.seq ?_
              refine RC.region rfl ?_
              refine RL.ev (.move rfl) rfl rfl ?_
              refine RL.ev (.move rfl) rfl rfl ?_
              refine RL.ev (.move rfl) rfl rfl ?_
              refine RL.ev (.as (.bin rfl rfl rfl) (wi64 (y := ((n + 1 : Nat) : Int)) (by omega) (by omega))) rfl rfl ?_
              refine RL.ev (.as (v' := .slice (if cr = n + 1 then ar else ar.map (·.add ((n + 1) * 2))) (rest.drop (n + 1)).length (cr - (n + 1))) (.sliceLo sl26 rfl rfl (by simp only [List.length_map]; omega)) (by rw [List.length_drop]; first | rfl | (simp only [List.length_map]; rfl))) rfl rfl ?_
              have sz_119 := S.size
              have ltb_4_119 := hb_4.lt
              have ltb_10_119 := hb_10.lt
              have ltb_11_119 := hb_11.lt
              refine RL.append2 (base := w.heap.size) (rows := (rest.take n).map It.cells) (news := (rest.drop (n + 1)).map It.cells) sl26 ze29 rfl rfl rfl rfl (.inl o113) (slDropM o.sl.1 (n + 1) hcr) (by (try simp only [List.length_map]); first | done | rfl) (by intro r hr; obtain ⟨x, _, rfl⟩ := List.mem_map.1 hr; rfl) (by rw [List.all_eq_true]; intro r hr; obtain ⟨x, _, rfl⟩ := List.mem_map.1 hr; rfl) (by (try simp only [List.length_map, List.length_nil, List.length_append, List.length_cons]); omega) (by (try simp only [List.length_map, List.length_nil, List.length_append, List.length_cons]); omega) (by omega) rfl rfl (fun v_119 w_119 hc_119 ho_119 ag_119 ob_119 => ?_)
              have o119 := ho_119 (.inr o113)
              have dd_o119_o := obDD ob_119 dd_o113_o (fun k hk => (o.ge k hk).2)
              have d_o119_b_4 := obNe ob_119 d_o113_b_4 hb_4.lt
              have d_o119_b_10 := obNe ob_119 d_o113_b_10 hb_10.lt
              have d_o119_b_11 := obNe ob_119 d_o113_b_11 hb_11.lt
              have S := S.agrN ag_119 (fun k e => Nat.le_trans (by omega) e.2)
              have o := o.step ag_119 (fun k hk e => dd_o113_o k e.1 hk)
              have hb_4 := hb_4.step ag_119 (fun e => d_o113_b_4 _ e.1 rfl)
              have hb_10 := hb_10.step ag_119 (fun e => d_o113_b_10 _ e.1 rfl)
              have hb_11 := hb_11.step ag_119 (fun e => d_o113_b_11 _ e.1 rfl)
              have szB := Nat.le_trans szB ag_119.size
              obtain ⟨a_119, c_119, rfl, k_119⟩ := o119.form
              refine RL.ev (.assign rfl) rfl rfl ?_
              refine RL.nil (RC.back ?_)
              refine RC.region rfl ?_
              refine RL.ev (.move rfl) rfl rfl ?_
              refine RL.ev (.assign rfl) rfl rfl ?_
              refine RL.nil (RC.back ?_)
              refine RC.region rfl ?_
              refine RL.ev (.as (.bin rfl rfl rfl) (wi64 (y := ((i + 1 : Nat) : Int)) (by simp only []; omega) (by omega))) rfl rfl ?_
              refine RL.ev (.move rfl) rfl rfl ?_
              exact RL.nil (fun a ka => ⟨(i + 1, rest.take n ++ rest.drop (n + 1), a_119, _, c_119), ⟨⟨by simp only []; omega, hrp2, fun j t hj ht => by simp only [] at hj; by_cases e : j = i; (rw [e, hmi] at ht; cases ht; rw [e, hzd]; exact hlx); exact hlo j t (by omega) ht⟩, by show Ows _ _ _ _ _ ((rest.take n ++ rest.drop (n + 1)).map It.cells); rw [List.map_append]; exact o119, hb_4, hb_10, hb_11, fun k hk => ⟨d_o119_b_4 k hk, d_o119_b_10 k hk, d_o119_b_11 k hk⟩, S⟩, by simp only []; omega, ka.keep (keep_of (by repeat (first | exact trivial | refine And.intro rfl ?_)))⟩)
          ·
            have h86 := h13
            simp only [] at h86
            obtain rfl : i = l.length := (by omega)
            refine RC.exit rfl (RC.back ?_)
            refine RC.seq ?_
            refine RC.region rfl ?_
            refine RL.ev (.loadR (y.cells) sh97 rfl hb_10.row rfl) rfl rfl ?_
            refine RL.ev (.loadR (_) sh97 rfl hb_11.row rfl) rfl rfl ?_
            refine RL.ev (.eqS (xs := _) (ys := _) fk97 eg97 sh97 rfl rfl rfl rfl rfl) rfl rfl ?_
            refine RL.ev (.assign rfl) rfl rfl ?_
            refine RL.nil (RC.back ?_)
            refine RC.done (rs := [.tmp 8]) (vs := [_]) rfl rfl ⟨rfl, trivial⟩ ?_
            -- end 6
            refine ⟨congrArg Value.bool ?_, S⟩
            rw [eqL_cells, Bool.eq_iff_iff, isHB_iff, decide_eq_true_iff, hci, hmpl]
            exact ⟨fun h => ⟨q9, h, fun j t ht => hlo j t (by have := lt_of_get ht; omega) ht⟩, fun h => h.2.1⟩
theorem c_refIsH (A : Ar) (na fa : Option Addr) (nc fc : Nat) (hnl : A.nodes.length ≤ 1000000000) : ∀ (k lv : Nat) (r : Int) (l : List It) (a : Option Addr) (c m : Nat) (w : World), k ≤ 10 → lv = 10 - k → Ap l → m = l.length → U64 r → l.length ≤ 1000000 → ArR w na fa A → Sl w a 2 (l.map It.cells) →
    FC Try.prog 32 [arV na fa nc fc A, .int .u64 r, .slice a m c, .int .i64 (lv : Int)] w (Val (.bool (isHB A k r l)) w)
  | 0, lv, r, l, a, c, m, w, hk, hlv, hap, hm, hr, hb, hA, hl => by
    obtain rfl : lv = 10 := by omega
    exact c_refIsC A na fa nc fc hnl r l hap a c m hm hr hb w hA hl
  | k + 1, lv, r, l, a, c, m, w, hk, hlv, hap, hm, hr, hb, hA, hl =>
    c_refIsT A na fa nc fc hnl k lv (by omega) (by omega) r l hap a c m hm hr hb w hA hl (fun r' l' a' c' m' w' h1 h2 h3 h4 h5 h6 => c_refIsH A na fa nc fc hnl k (lv + 1) r' l' a' c' m' w' (by omega) (by omega) h1 h2 h3 h4 h5 h6)
end Go.Proofs.Ytbfjobmebkhblaa
set_option linter.unusedVariables false
set_option linter.unusedSimpArgs false
namespace Go.Proofs.Ytbfjobmebkhblaa
open Go Go.XL
theorem IsH.some {A : Ar} {k : Nat} {r : Int} {L : List It} (h : IsH A k r L) (hl : ¬ L = []) : ∃ y, getA A r = some y := by
  rcases row_cases L with rfl | ⟨x, rfl⟩ | h2
  · exact absurd rfl hl
  · obtain ⟨g, e⟩ := isH_one.1 h; exact ⟨_, e⟩
  · obtain ⟨_, _, _, _, e⟩ := h.node h2; exact ⟨_, e⟩
end Go.Proofs.Ytbfjobmebkhblaa
set_option linter.unusedVariables false
set_option linter.unusedSimpArgs false
namespace Go.Proofs.Ytbfjobmebkhblaa
open Go Go.XL
abbrev Rh := List Int × List It × Bool
end Go.Proofs.Ytbfjobmebkhblaa
set_option linter.unusedVariables false
set_option linter.unusedSimpArgs false
namespace Go.Proofs.Ytbfjobmebkhblaa
open Go Go.XL
/-- what is kept while a table is read -/
structure RhOk (N : Nat) (t : Rh) : Prop where
  nd : t.1.Nodup
  rng : ∀ p ∈ t.1, 0 ≤ p ∧ p < N
  row : t.2.1.length ≤ t.1.length
theorem RhOk.len {N : Nat} {t : Rh} (h : RhOk N t) : t.1.length ≤ N := pigeon N t.1 h.nd h.rng
theorem RhOk.off {N : Nat} {t : Rh} (h : RhOk N t) : RhOk N (t.1, t.2.1, false) := ⟨h.nd, h.rng, h.row⟩
theorem RhOk.add {N : Nat} {t : Rh} (h : RhOk N t) {p : Int} (hp : 0 ≤ p ∧ p < N) (hn : ¬ p ∈ t.1) (b : Bool) : RhOk N (t.1 ++ [p], t.2.1, b) := by
  refine ⟨List.nodup_append.2 ⟨h.nd, by simp, fun a ha c hc e => ?_⟩, fun q hq => ?_, ?_⟩
  · rw [List.mem_singleton.1 hc] at e; exact hn (e ▸ ha)
  · rcases List.mem_append.1 hq with hq | hq
    · exact h.rng q hq
    · rw [List.mem_singleton.1 hq]; exact hp
  · have := h.row; rw [List.length_append]; simp only [List.length_singleton]; omega
end Go.Proofs.Ytbfjobmebkhblaa
set_option linter.unusedVariables false
set_option linter.unusedSimpArgs false
namespace Go.Proofs.Ytbfjobmebkhblaa
open Go Go.XL
def refOk (n : Nat) (r : Int) : Prop := r = 0 ∨ ∃ j : Nat, r = (j : Int) + 1 ∧ j < n
theorem refOk.u64 {n : Nat} {r : Int} (h : refOk n r) (hn : n ≤ 1000000) : U64 r := by
  rcases h with rfl | ⟨j, rfl, h⟩
  · exact zu64
  · unfold U64; omega
theorem refOk.right {n : Nat} {r : Int} (h : refOk n r) (hn : n ≤ 512) : rightR r = true := by
  rcases h with rfl | ⟨j, rfl, h⟩
  · exact (show rightR 0 = true by decide)
  · exact (place_of_at (a := j) (by omega)).2.2.2
/-- nodes that are laid -/
def GoodH (n : Nat) (l : List It) (y : Node) : Prop := ¬ y.kind = 0 ∧ (n ≤ 512 → well y = true) ∧ ((∀ z ∈ l, z.ok) → y.ok)
theorem GoodH.mono {n : Nat} {l m : List It} {y : Node} (h : GoodH n l y) (hm : ∀ z ∈ l, z ∈ m) : GoodH n m y := ⟨h.1, h.2.1, fun hz => h.2.2 fun z q => hz z (hm z q)⟩
structure LyH (ns : List Node) (at_ k : Nat) (l : List It) (ns' : List Node) (r : Int) : Prop where
  len : ns'.length = ns.length
  same : ∀ i : Nat, (i < at_ ∨ at_ + cnt k l ≤ i) → ns'[i]? = ns[i]?
  isH : ns.length ≤ 512 → ∀ A : Ar, (∀ i : Nat, at_ ≤ i → i < at_ + cnt k l → A.nodes[i]? = ns'[i]?) → IsH A k r l
  good : ∀ (i : Nat) y, at_ ≤ i → i < at_ + cnt k l → ns'[i]? = some y → GoodH ns.length l y
  ref : refOk ns.length r
/-- tables that are laid one behind the other -/
structure LyF (ns : List Node) (at_ k : Nat) (ps : List (List It)) (ns' : List Node) (ks : List Int) : Prop where
  kl : ks.length = ps.length
  len : ns'.length = ns.length
  same : ∀ i : Nat, (i < at_ ∨ at_ + (ps.map (cnt k)).sum ≤ i) → ns'[i]? = ns[i]?
  isH : ns.length ≤ 512 → ∀ A : Ar, (∀ i : Nat, at_ ≤ i → i < at_ + (ps.map (cnt k)).sum → A.nodes[i]? = ns'[i]?) → ∀ j, j < ps.length → IsH A k (ks.getD j 0) (ps.getD j [])
  good : ∀ (i : Nat) y, at_ ≤ i → i < at_ + (ps.map (cnt k)).sum → ns'[i]? = some y → GoodH ns.length ps.flatten y
  ref : ∀ z ∈ ks, refOk ns.length z
theorem LyF.nil (ns : List Node) (at_ k : Nat) : LyF ns at_ k [] ns [] :=
  ⟨rfl, rfl, fun _ _ => rfl, fun _ _ _ j h => absurd h (by simp), fun i y h1 h2 => absurd h2 (by simp; omega), fun z h => by cases h⟩
theorem getD_snoc {α : Type} {l : List α} {x d : α} {j n : Nat} (hl : l.length = n) : (j < n → (l ++ [x]).getD j d = l.getD j d) ∧ (l ++ [x]).getD n d = x := by
  subst hl
  constructor
  · intro h; rw [List.getD_eq_getElem?_getD, List.getD_eq_getElem?_getD, List.getElem?_append_left h]
  · rw [List.getD_eq_getElem?_getD, List.getElem?_append_right (Nat.le_refl _), Nat.sub_self]; rfl
theorem sum_snoc (l : List Nat) (x : Nat) : (l ++ [x]).sum = l.sum + x := by simp [List.sum_append]
theorem LyF.step {ns n1 n2 : List Node} {at_ k a1 : Nat} {ps : List (List It)} {ks : List Int} {q : List It} {r : Int} (h : LyF ns at_ k ps n1 ks) (ha : a1 = at_ + (ps.map (cnt k)).sum) (g : LyH n1 a1 k q n2 r) : LyF ns at_ k (ps ++ [q]) n2 (ks ++ [r]) := by
  subst ha
  have es : ((ps ++ [q]).map (cnt k)).sum = (ps.map (cnt k)).sum + cnt k q := by rw [List.map_append]; exact sum_snoc _ _
  have hl := h.len
  refine ⟨by rw [List.length_append, List.length_append, h.kl]; rfl, by rw [g.len, h.len], fun i hi => ?_, fun h5 A hA j hj => ?_, fun i y h1 h2 hy => ?_, fun z hz => ?_⟩
  · rw [es] at hi
    rw [g.same i (by omega), h.same i (by omega)]
  · rw [es] at hA
    rw [List.length_append] at hj
    by_cases e : j < ps.length
    · rw [(getD_snoc h.kl).1 e, (getD_snoc rfl).1 e]
      exact h.isH h5 A (fun i h1 h2 => by rw [hA i h1 (by omega), g.same i (by omega)]) j e
    · obtain rfl : j = ps.length := by simp at hj; omega
      rw [(getD_snoc (j := 0) h.kl).2, (getD_snoc (j := 0) rfl).2]
      exact g.isH (by rw [hl]; exact h5) A (fun i h1 h2 => hA i (by omega) (by omega))
  · rw [es] at h2
    by_cases e : i < at_ + (ps.map (cnt k)).sum
    · rw [g.same i (by omega)] at hy
      exact (h.good i y h1 e hy).mono fun z hz => by rw [List.flatten_append]; exact List.mem_append_left _ hz
    · have := g.good i y (by omega) (by omega) hy
      rw [hl] at this
      exact this.mono fun z hz => by rw [List.flatten_append]; exact List.mem_append_right _ (by simpa using hz)
  · rcases List.mem_append.1 hz with hz | hz
    · exact h.ref z hz
    · rw [List.mem_singleton.1 hz, ← hl]; exact g.ref
end Go.Proofs.Ytbfjobmebkhblaa
set_option linter.unusedVariables false
set_option linter.unusedSimpArgs false
namespace Go.Proofs.Ytbfjobmebkhblaa
open Go Go.XL
section
variable {H : Type} {enc : TypeId × Value → H} {W : World} {base : Nat} {sp : Nat → Bool} {held : Bool} {v : Value} {d : DataW H} {ps : List MemPlace} {r : Reach} {b : Nat}
set_option maxRecDepth 100000 in
theorem open_i64s (hok : Value.okWide Try.prog W r b 25 v) (h : DataW.Trod enc Try.prog W base sp held 25 v d ps) : ∃ (a : Option Addr) (l : List Int) (c : Nat), v = .slice a l.length c ∧ l.length ≤ c ∧ c ≤ maxLen ∧ Sl W a 1 (l.map fun x => [i6 x]) ∧ ∀ x ∈ l, I64 x :=
  open_sl (fun x => [i6 x]) I64 sl25 rfl rfl fit_int hok h
end
end Go.Proofs.Ytbfjobmebkhblaa
set_option linter.unusedVariables false
set_option linter.unusedSimpArgs false
namespace Go.Proofs.Ytbfjobmebkhblaa
open Go Go.XL
theorem newA_freeH (n : Nat) : (newA n).free.length = n := by simp [newA, newFree_len]
theorem tab_of {A : Ar} {r : Int} {L : List It} (hA : AOk A) (h : IsH A 10 r L) (hap : Ap L) (hl : L.length ≤ 200) : isTab A r := ⟨hA, L, h, hap, hl⟩
theorem put_twoH {A B : Ar} {r key v r' e : Int} {L : List It} (h : PutPH A r key v B r' e) (hm : isTab A r) (hL : IsH A 10 r L) (hap : Ap L) :
    (BadH L key → e = 5 ∧ r' = 0) ∧ (¬ BadH L key → e = 2 ∧ A.free.length < cnt 10 (putM L key v) ∨ e = 0 ∧ Ext A B ∧ AOk B ∧ A.free.length ≤ B.free.length + cnt 10 (putM L key v) ∧ IsH B 10 r' (putM L key v)) := by
  obtain ⟨_, h2, h3⟩ := h
  refine ⟨fun hb => ?_, fun hb => ?_⟩
  · rcases h3 L hm hL hap with h | h | h
    · exact ⟨h.2, (h2 (by omega)).2⟩
    · exact absurd hb h.1
    · exact absurd hb h.1
  · rcases h3 L hm hL hap with h | h | h
    · exact absurd h.1 hb
    · exact .inl h.2
    · exact .inr h.2
theorem del_twoH {A B : Ar} {r key r' e : Int} {L : List It} (h : DelPH A r key B r' e) (hm : isTab A r) (hL : IsH A 10 r L) (hap : Ap L) :
    (hasK L key = false → e = 3 ∧ r' = 0) ∧ (hasK L key = true → e = 2 ∧ A.free.length < cnt 10 (delL L key) ∨ e = 0 ∧ Ext A B ∧ AOk B ∧ A.free.length ≤ B.free.length + cnt 10 (delL L key) ∧ IsH B 10 r' (delL L key)) := by
  obtain ⟨_, h2, h3⟩ := h
  refine ⟨fun hb => ?_, fun hb => ?_⟩
  · rcases h3 L hm hL hap with h | h | h
    · exact ⟨h.2, (h2 (by omega)).2⟩
    · rw [hb] at h; cases h.1
    · rw [hb] at h; cases h.1
  · rcases h3 L hm hL hap with h | h | h
    · rw [hb] at h; cases h.1
    · exact .inl h.2
    · exact .inr h.2
/-- a put that must go well -/
theorem PutPH.good {A B : Ar} {r key v r' e : Int} {L : List It} (h : PutPH A r key v B r' e) (hA : AOk A) (hL : IsH A 10 r L) (hap : Ap L) (hl : L.length < 9) (hk : -1073741824 ≤ key ∧ key ≤ 1073741824) (hf : 12 * (L.length + 1) ≤ A.free.length) :
    e = 0 ∧ Ext A B ∧ AOk B ∧ A.free.length ≤ B.free.length + cnt 10 (putM L key v) ∧ IsH B 10 r' (putM L key v) := by
  have hs := shL_le key L
  have hc := cnt_le 10 (putM L key v)
  have hpl := putM_len (key := key) (v := v) hap
  have hb : ¬ BadH L key := fun h => h.elim (by omega) (fun h => h.elim (by omega) (fun h => by omega))
  rcases (put_twoH h (tab_of hA hL hap (by omega)) hL hap).2 hb with h | h
  · omega
  · exact h
theorem c_isYesH (A : Ar) (na fa : Option Addr) (nc fc : Nat) (hnl : A.nodes.length ≤ 1000000000) (r : Int) (L M : List It) (hp : L.Perm M) (a : Option Addr) (c m : Nat) (hap : Ap M) (hm : m = M.length) (hr : U64 r) (hb : M.length ≤ 1000000) (hL : IsH A 10 r L) (w : World) (hR : ArR w na fa A) (hs : Sl w a 2 (M.map It.cells)) :
    FC Try.prog 32 [arV na fa nc fc A, .int .u64 r, .slice a m c, .int .i64 0] w (Val (.bool true) w) := by
  have h := c_refIsH A na fa nc fc hnl 10 0 r M a c m w (Nat.le_refl _) rfl hap hm hr hb hR hs
  rwa [isHB_yes (hL.perm hp)] at h
theorem c_alive9 (w : World) : FC Try.prog 31 [] w (Val (.bool true) w) := by
  have hok : AOk (newA 90) := newA_ok ⟨by decide, by decide⟩
  refine FC.intro Try.func31 rfl Try.ntmps31 rfl ?_
  have S := Sub.refl w
  refine RC.seq ?_
  refine RC.region rfl ?_
  refine RL.ev (.assign rfl) rfl rfl ?_
  refine RL.nil (RC.back ?_)
  refine RC.seq ?_
  refine RC.region rfl ?_
  refine RL.call rfl ok29 (c_aNew 90 ⟨by decide, by decide⟩ w) rfl rfl ?_
  rintro _ w1 ⟨na, fa, nc, fc, rfl, hnc, hfc, hn0, s2⟩
  have hA := Ft.new hn0 s2
  have S := S.trans s2
  refine RL.ev (.move rfl) rfl rfl ?_
  refine RL.ev (.extract rfl rfl) rfl rfl ?_
  refine RL.ev (.extract rfl rfl) rfl rfl ?_
  refine RL.alloc ze34 rfl rfl (fun b_1 w_1 e_1 z_1 hb_1 s_1 => ?_)
  have ge_1 := S.le e_1
  have d_hA_b_1 := hA.neNew e_1
  have S := S.trans s_1
  have hA := hA.sub s_1
  refine RL.store sh34 rfl rfl rfl hb_1 (by exact Nat.le_of_ble_eq_true rfl) (by rfl) rfl (fun w3 z3 hb_1 a3 => ?_)
  have S := S.upd a3 ge_1
  have hA := hA.updD a3 d_hA_b_1
  have hb_1 : Has w3 b_1 ([.slice na (newA 90).nodes.length nc, .slice fa (newA 90).free.length fc]) _ := hb_1.now (by kernel_rfl)
  refine RL.ev (.assign rfl) rfl rfl ?_
  refine RL.nil (RC.back ?_)
  refine RC.seq ?_
  refine RC.region rfl ?_
  refine RL.ev (.loadR ([.slice na (newA 90).nodes.length nc, .slice fa (newA 90).free.length fc]) sh34 rfl hb_1.row rfl) rfl rfl ?_
  refine RL.call rfl ok30 (c_hPut (newA 90) na fa nc fc hnc hfc 0 5 7 zu0 (by unfold I64; decide) (by unfold I64; decide) _ w3 hA) rfl rfl ?_
  rintro _ w4 ⟨s5, na', fa', nc', fc', B, r', e, M', rfl, hu, hnc', hfc', hA', hup, hpp⟩
  have d_hA'_b_1 := upNe hup d_hA_b_1 hb_1.lt
  have S := S.trans s5
  have hA := hA.sub s5
  have hb_1 := hb_1.sub s5
  obtain ⟨rfl, hx, hBok, hBf, hBT⟩ := hpp.good hok (isH_nil.2 rfl) List.Pairwise.nil (by decide) (by decide) (by rw [newA_freeH]; decide)
  refine RL.ev (.move rfl) rfl rfl ?_
  refine RL.ev (.extract rfl rfl) rfl rfl ?_
  refine RL.ev (.extract rfl rfl) rfl rfl ?_
  refine RL.ev (.extract rfl rfl) rfl rfl ?_
  refine RL.store sh34 rfl rfl rfl hb_1 (by exact Nat.le_of_ble_eq_true rfl) (by rfl) rfl (fun w6 z6 hb_1 a6 => ?_)
  have S := S.upd a6 ge_1
  have hA' := hA'.updD a6 d_hA'_b_1
  have hb_1 : Has w6 b_1 ([.slice na' B.nodes.length nc', .slice fa' B.free.length fc']) _ := hb_1.now (by kernel_rfl)
  refine RL.ev (.assign rfl) rfl rfl ?_
  refine RL.ev (.assign rfl) rfl rfl ?_
  refine RL.nil (RC.back ?_)
  refine RC.seq ?_
  refine RC.region rfl ?_
  refine RL.ev (.loadR ([.slice na' B.nodes.length nc', .slice fa' B.free.length fc']) sh34 rfl hb_1.row rfl) rfl rfl ?_
  refine RL.ev (.move rfl) rfl rfl ?_
  refine RL.call rfl ok35 (c_hGet B na' fa' nc' fc' hnc' hfc' r' 5 hu w6 hA'.now) rfl rfl ?_
  rintro _ w7 ⟨s8, v5, e5, rfl, _, hx2⟩
  have S := S.trans s8
  have hb_1 := hb_1.sub s8
  have hA' := hA'.sub s8
  have hx3 := hx2 _ (tab_of hBok hBT (List.pairwise_singleton _ _) (by decide)) hBT (List.pairwise_singleton _ _)
  have hx4 : v5 = 7 ∧ e5 = 0 := (hx3.elim (fun h => by obtain ⟨z, hz, _, hv, he⟩ := h; rw [List.mem_singleton.1 (show z ∈ [(⟨5, 7⟩ : It)] from hz)] at hv; exact ⟨hv, he⟩) (fun h => by cases h.1))
  obtain ⟨rfl, rfl⟩ := hx4
  refine RL.ev (.move rfl) rfl rfl ?_
  refine RL.ev (.extract rfl rfl) rfl rfl ?_
  refine RL.ev (.extract rfl rfl) rfl rfl ?_
  refine RL.ev (.assign rfl) rfl rfl ?_
  refine RL.ev (.assign rfl) rfl rfl ?_
  refine RL.nil (RC.back ?_)
  refine RC.seq ?_
  refine RC.region rfl ?_
  refine RL.ev (.move rfl) rfl rfl ?_
  refine RL.ev (.as (v' := .bool true) (.bin rfl rfl rfl) (congrArg Value.bool (decide_eq_true (rfl)))) rfl rfl ?_
  refine RL.ev (.move rfl) rfl rfl ?_
  refine RL.ev (.move rfl) rfl rfl ?_
  refine RL.ev (.as (v' := .bool true) (.bin rfl rfl rfl) (congrArg Value.bool (decide_eq_true (rfl)))) rfl rfl ?_
  refine RL.ev (.pick_t rfl rfl) rfl rfl ?_
  refine RL.ev (.move rfl) rfl rfl ?_
  refine RL.ev (.move rfl) rfl rfl ?_
  refine RL.ev (.as (v' := .bool true) (.bin rfl rfl rfl) (congrArg Value.bool (decide_eq_true (rfl)))) rfl rfl ?_
  refine RL.ev (.pick_t rfl rfl) rfl rfl ?_
  refine RL.ev (.move rfl) rfl rfl ?_
  refine RL.ev (.move rfl) rfl rfl ?_
  refine RL.ev (.as (v' := .bool true) (.bin rfl rfl rfl) (congrArg Value.bool (decide_eq_true (rfl)))) rfl rfl ?_
  refine RL.ev (.pick_t rfl rfl) rfl rfl ?_
  refine RL.ev (.assign rfl) rfl rfl ?_
  refine RL.nil (RC.back ?_)
  refine RC.done (rs := [.tmp 0]) (vs := [_]) rfl rfl ⟨rfl, trivial⟩ ?_
  -- end 1
  exact ⟨rfl, S⟩
end Go.Proofs.Ytbfjobmebkhblaa
set_option linter.unusedVariables false
set_option linter.unusedSimpArgs false
namespace Go.Proofs.Ytbfjobmebkhblaa
open Go Go.XL
theorem hash60 : ((List.range 60).map fun (n : Nat) => hashOf (n : Int)).Nodup := by decide +kernel
theorem hash60_inj {a b : Int} (ha : 0 ≤ a ∧ a < 60) (hb : 0 ≤ b ∧ b < 60) (h : hashOf a = hashOf b) : a = b := by
  obtain ⟨m, rfl⟩ : ∃ m : Nat, a = m := ⟨a.toNat, by omega⟩
  obtain ⟨n, rfl⟩ : ∃ n : Nat, b = n := ⟨b.toNat, by omega⟩
  have h60 := hash60
  rw [List.nodup_iff_pairwise_ne, List.pairwise_map] at h60
  rw [List.pairwise_iff_getElem] at h60
  rcases Nat.lt_trichotomy m n with q | q | q
  · have := h60 m n (by simp; omega) (by simp; omega) q
    simp only [List.getElem_range] at this
    exact absurd h this
  · rw [q]
  · have := h60 n m (by simp; omega) (by simp; omega) q
    simp only [List.getElem_range] at this
    exact absurd h.symm this
def Low (L : List It) : Prop := ∀ x ∈ L, 0 ≤ x.k ∧ x.k < 60
theorem Low.perm {L M : List It} (h : Low L) (p : L.Perm M) : Low M := fun x hx => h x (p.mem_iff.2 hx)
theorem Low.put {L : List It} (h : Low L) {key v : Int} (hk : 0 ≤ key ∧ key < 60) : Low (putM L key v) := fun x hx => by
  rcases List.mem_cons.1 hx with rfl | hx
  · exact hk
  · exact h x (delL_mem.1 hx).1
theorem Low.del {L : List It} (h : Low L) {key : Int} : Low (delL L key) := fun x hx => h x (delL_mem.1 hx).1
theorem few_same : ∀ {L : List It}, Ap L → (∀ x ∈ L, ∀ y ∈ L, x.k = y.k) → L.length ≤ 1
  | [], _, _ => Nat.zero_le _
  | [x], _, _ => Nat.le_refl _
  | x :: y :: L, h, e => absurd (e x (by simp) y (by simp)) ((List.pairwise_cons.1 h).1 y (by simp))
theorem shL_low {L : List It} (hap : Ap L) (hlow : Low L) (k : Int) : shL k L ≤ 1 := by
  unfold shL
  refine few_same (hap.filter _) fun x hx y hy => ?_
  obtain ⟨h1, h2⟩ := List.mem_filter.1 hx
  obtain ⟨h3, h4⟩ := List.mem_filter.1 hy
  exact hash60_inj (hlow x h1) (hlow y h3) (by simp at h2 h4; rw [h2, h4])
theorem sub_len : ∀ (L ks : List Int), L.Nodup → (∀ x ∈ L, x ∈ ks) → L.length ≤ ks.length
  | [], ks, _, _ => Nat.zero_le _
  | x :: L, ks, h, hs => by
    obtain ⟨h1, h2⟩ := List.nodup_cons.1 h
    have hx := hs x (by simp)
    have := sub_len L (ks.erase x) h2 fun y hy => (List.mem_erase_of_ne (fun (e : y = x) => h1 (e ▸ hy))).2 (hs y (by simp [hy]))
    rw [List.length_erase_of_mem hx] at this
    have hp := List.length_pos_of_mem hx
    rw [List.length_cons]; omega
theorem Ap.keys {L : List It} (h : Ap L) : (L.map fun x => x.k).Nodup := by
  rw [List.nodup_iff_pairwise_ne, List.pairwise_map]; exact h
def zeroI (k : Int) : It := ⟨k, 0⟩
theorem ofL_keys (lv i : Nat) (ks : List Int) : ofL lv i (ks.map zeroI) = (ks.filter fun k => decide (dig k lv = i)).map zeroI := by
  unfold ofL; rw [List.filter_map]; rfl
theorem cnt_pos {k : Nat} {L : List It} (h : 1 ≤ L.length) : 1 ≤ cnt k L := by
  rcases row_cases L with rfl | ⟨x, rfl⟩ | h2
  · simp at h
  · rw [cnt_few (by simp)]; exact Nat.le_refl _
  · cases k with
    | zero => rw [cnt_0 h2]; omega
    | succ k => rw [cnt_s h2]; omega
theorem cnt_bound : ∀ (k : Nat) (L : List It) (ks : List Int), Ap L → (∀ x ∈ L, x.k ∈ ks) → cnt k L ≤ cnt k (ks.map zeroI)
  | k, L, ks, hap, hs => by
    have hlen : L.length ≤ ks.length := by
      have := sub_len (L.map fun x => x.k) ks hap.keys (fun y hy => by obtain ⟨x, hx, rfl⟩ := List.mem_map.1 hy; exact hs x hx)
      rwa [List.length_map] at this
    rcases row_cases L with rfl | ⟨x, rfl⟩ | h2
    · rw [cnt_nil]; exact Nat.zero_le _
    · rw [cnt_few (by simp)]; exact cnt_pos (by rw [List.length_map]; exact hlen)
    · have h2' : 2 ≤ (ks.map zeroI).length := by rw [List.length_map]; omega
      cases k with
      | zero => rw [cnt_0 h2, cnt_0 h2', List.length_map]; omega
      | succ k =>
        have q : ∀ i, cnt k (ofL (9 - k) i L) ≤ cnt k (ofL (9 - k) i (ks.map zeroI)) := fun i => by
          rw [ofL_keys]
          exact cnt_bound k _ _ (hap.of _ _) fun x hx => List.mem_filter.2 ⟨hs x (ofL_mem.1 hx).1, by simpa using (ofL_mem.1 hx).2⟩
        have q0 := q 0
        have q1 := q 1
        have q2 := q 2
        have q3 := q 3
        rw [cnt_s h2, cnt_s h2']; omega
theorem cnt60 : cnt 10 (((List.range 60).map fun (n : Nat) => (n : Int)).map zeroI) ≤ 100 := by decide +kernel
theorem cnt_low {L : List It} (hap : Ap L) (hlow : Low L) : cnt 10 L ≤ 100 :=
  Nat.le_trans (cnt_bound 10 L _ hap fun x hx => List.mem_map.2 ⟨x.k.toNat, List.mem_range.2 (by have := hlow x hx; omega), by have := hlow x hx; omega⟩) cnt60
theorem low_len {L : List It} (hap : Ap L) (hlow : Low L) : L.length ≤ 60 := by
  have := sub_len (L.map fun x => x.k) ((List.range 60).map fun (n : Nat) => (n : Int)) hap.keys (fun y hy => by
    obtain ⟨x, hx, rfl⟩ := List.mem_map.1 hy
    exact List.mem_map.2 ⟨x.k.toNat, List.mem_range.2 (by have := hlow x hx; omega), by have := hlow x hx; omega⟩)
  simpa using this
theorem low_bad {L : List It} (hap : Ap L) (hlow : Low L) {key : Int} (hk : 0 ≤ key ∧ key < 60) : ¬ BadH L key := by
  have := shL_low hap hlow key
  have := low_len hap hlow
  exact fun h => h.elim (by omega) (fun h => h.elim (by omega) (fun h => h.2.elim (by omega) (by omega)))
theorem PutPH.low {A B : Ar} {r key v r' e : Int} {L : List It} (h : PutPH A r key v B r' e) (hA : AOk A) (hL : IsH A 10 r L) (hap : Ap L) (hlow : Low L) (hk : 0 ≤ key ∧ key < 60) (hf : 100 ≤ A.free.length ∨ 12 * (L.length + 1) ≤ A.free.length) :
    e = 0 ∧ Ext A B ∧ AOk B ∧ A.free.length ≤ B.free.length + 100 ∧ IsH B 10 r' (putM L key v) := by
  have hc := cnt_low (hap.put (key := key) (v := v)) (hlow.put hk)
  have hc2 := cnt_le 10 (putM L key v)
  have hpl := putM_len (key := key) (v := v) hap
  have hll := low_len hap hlow
  rcases (put_twoH h (tab_of hA hL hap (by omega)) hL hap).2 (low_bad hap hlow hk) with h | ⟨h1, h2, h3, h4, h5⟩
  · omega
  · exact ⟨h1, h2, h3, by omega, h5⟩
theorem DelPH.low {A B : Ar} {r key r' e : Int} {L : List It} (h : DelPH A r key B r' e) (hA : AOk A) (hL : IsH A 10 r L) (hap : Ap L) (hlow : Low L) (hf : 100 ≤ A.free.length ∨ 12 * L.length ≤ A.free.length) :
    (hasK L key = false ∧ e = 3) ∨ (hasK L key = true ∧ e = 0 ∧ Ext A B ∧ AOk B ∧ A.free.length ≤ B.free.length + 100 ∧ IsH B 10 r' (delL L key)) := by
  have hc := cnt_low (hap.del (key := key)) hlow.del
  have hc2 := cnt_le 10 (delL L key)
  have hdl : (delL L key).length ≤ L.length := List.length_filter_le _ _
  have hll := low_len hap hlow
  have := del_twoH h (tab_of hA hL hap (by omega)) hL hap
  cases hh : hasK L key with
  | false => exact .inl ⟨rfl, (this.1 hh).1⟩
  | true =>
    rcases this.2 hh with h | ⟨h1, h2, h3, h4, h5⟩
    · omega
    · exact .inr ⟨rfl, h1, h2, h3, by omega, h5⟩
end Go.Proofs.Ytbfjobmebkhblaa
set_option linter.unusedVariables false
set_option linter.unusedSimpArgs false
namespace Go.Proofs.Ytbfjobmebkhblaa
open Go Go.XL
theorem owNewH {w : World} {e : TypeId} {sz b : Nat} {v : Value} {rows : List (List Value)} {w' : World} (h : Ows w.heap.size w' e sz v rows) (hb : b < w.heap.size) : ∀ k, ob v = some k → k ≠ b := fun k hk e => by have := (h.ge k hk).1; omega
def rowSH (f : Nat → Int) : Nat → List It
  | 0 => []
  | i + 1 => putL (rowSH f i) (f i) (f i)
theorem rowSH_srt (f : Nat → Int) : ∀ i, Srt (rowSH f i)
  | 0 => List.Pairwise.nil
  | i + 1 => (rowSH_srt f i).put
theorem rowSH_len (f : Nat → Int) : ∀ i, (rowSH f i).length ≤ i
  | 0 => Nat.le_refl _
  | i + 1 => Nat.le_trans (putL_len (rowSH_srt f i)) (Nat.succ_le_succ (rowSH_len f i))
theorem rowSH_mem {f : Nat → Int} : ∀ {i : Nat} {x : It}, x ∈ rowSH f i ↔ ∃ j, j < i ∧ x = ⟨f j, f j⟩
  | 0, x => by simp [rowSH]
  | i + 1, x => by
    rw [rowSH, ← putR_putL (rowSH_srt f i), putR_mem (rowSH_srt f i), rowSH_mem]
    constructor
    · rintro (h | ⟨⟨j, hj, h⟩, _⟩)
      · exact ⟨i, by omega, h⟩
      · exact ⟨j, by omega, h⟩
    · rintro ⟨j, hj, h⟩
      by_cases e : x.k = f i
      · left
        rw [h] at e ⊢
        simp only [] at e
        rw [e]
      · refine .inr ⟨⟨j, ?_, h⟩, e⟩
        rcases Nat.lt_or_eq_of_le (Nat.le_of_lt_succ hj) with h2 | h2
        · exact h2
        · rw [h, h2] at e; exact absurd rfl e
theorem srt_extH : ∀ {L M : List It}, Srt L → Srt M → (∀ x, x ∈ L ↔ x ∈ M) → L = M
  | [], [], _, _, _ => rfl
  | [], y :: M, _, _, h => absurd ((h y).2 (by simp)) (by simp)
  | x :: L, [], _, _, h => absurd ((h x).1 (by simp)) (by simp)
  | x :: L, y :: M, hL, hM, h => by
    have h1 := List.pairwise_cons.1 hL
    have h2 := List.pairwise_cons.1 hM
    have exy : x = y := by
      rcases List.mem_cons.1 ((h x).1 (by simp)) with e | hx
      · exact e
      · rcases List.mem_cons.1 ((h y).2 (by simp)) with e | hy
        · exact e.symm
        · have := h2.1 x hx; have := h1.1 y hy; omega
    subst exy
    rw [srt_extH h1.2 h2.2 fun z => ?_]
    constructor
    · intro hz
      rcases List.mem_cons.1 ((h z).1 (List.mem_cons_of_mem _ hz)) with e | hz2
      · have := h1.1 z hz; rw [e] at this; omega
      · exact hz2
    · intro hz
      rcases List.mem_cons.1 ((h z).2 (List.mem_cons_of_mem _ hz)) with e | hz2
      · have := h2.1 z hz; rw [e] at this; omega
      · exact hz2
def k50H (l : List Int) (j : Nat) : Int := (l.getD j 0) % 50
def rot50H (l : List Int) (c n : Nat) (j : Nat) : Int := k50H l ((j + c) % n)
theorem rot_rowH (l : List Int) (c n : Nat) (hn : 0 < n) : rowSH (rot50H l c n) n = rowSH (k50H l) n := by
  refine srt_extH (rowSH_srt _ _) (rowSH_srt _ _) fun x => ?_
  rw [rowSH_mem, rowSH_mem]
  constructor
  · rintro ⟨j, hj, h⟩
    exact ⟨(j + c) % n, Nat.mod_lt _ hn, h⟩
  · rintro ⟨j, hj, h⟩
    refine ⟨(j + (n - c % n)) % n, Nat.mod_lt _ hn, ?_⟩
    unfold rot50H
    have e : ((j + (n - c % n)) % n + c) % n = j := by
      have h1 := Nat.mod_lt c hn
      have h2 := Nat.div_add_mod c n
      rw [Nat.mod_add_mod]
      have h3 : j + (n - c % n) + c = j + n * (c / n + 1) := by rw [Nat.mul_add]; omega
      rw [h3, Nat.add_mul_mod_self_left, Nat.mod_eq_of_lt hj]
    rw [e, h]
theorem k50H_rng (l : List Int) (j : Nat) : 0 ≤ k50H l j ∧ k50H l j < 50 := by unfold k50H; omega
theorem rowSH_low {f : Nat → Int} (hf : ∀ j, 0 ≤ f j ∧ f j < 50) (i : Nat) : Low (rowSH f i) := by
  intro z hz
  obtain ⟨j, _, rfl⟩ := rowSH_mem.1 hz
  have := hf j
  show 0 ≤ f j ∧ f j < 60
  omega
set_option maxHeartbeats 2000000 in
theorem law_HamtShape (w : World) (l0 : List Int) (pa : Option Addr) (pc : Nat) (hlc : l0.length ≤ pc) (hcm : pc ≤ maxLen) (hs0 : Sl w pa 1 (l0.map fun x => [i6 x])) (hli0 : ∀ x ∈ l0, I64 x) (n0 : Int) (wn : (Lit.int .i64 n0).wf = true) :
    FC Try.prog 8 [.slice pa l0.length pc, .int .i64 n0] w (Val (.bool true) w) := by
  have hll : l0.length ≤ 9223372036854775807 := Nat.le_trans hlc (Nat.le_trans hcm (by decide))
  have hn0 : -9223372036854775808 ≤ n0 ∧ n0 ≤ 9223372036854775807 := wfI wn
  obtain ⟨n, hn⟩ : ∃ n, n = (l0.take 8).length := ⟨_, rfl⟩
  obtain ⟨l, hl⟩ : ∃ l, l = l0.take 8 := ⟨_, rfl⟩
  have hnl : l.length = n := by rw [hl, hn]
  have hn8 : n ≤ 8 ∧ n ≤ l0.length ∧ (n = 8 ∨ n = l0.length) := by rw [hn, List.length_take]; omega
  have hs : Sl w pa 1 (l.map fun x => [i6 x]) := by rw [hl, List.map_take]; exact hs0.take 8
  have hli : ∀ x ∈ l, I64 x := fun x hx => hli0 x (List.mem_of_mem_take (hl ▸ hx))
  obtain ⟨c, hc, hc0⟩ : ∃ c : Nat, (0 < n → (c : Int) = n0.tmod n + n) ∧ c ≤ 16 := by
    by_cases h : 0 < n
    · have := norm_mod n0 n (by omega)
      exact ⟨(n0.tmod n + n).toNat, fun _ => by omega, by omega⟩
    · exact ⟨0, fun h' => absurd h' h, by decide⟩
  refine FC.intro Try.func8 rfl Try.ntmps8 rfl ?_
  have S := Sub.refl w
  refine RC.seq ?_
  refine RC.region rfl ?_
  refine RL.ev (.assign rfl) rfl rfl ?_
  refine RL.nil (RC.back ?_)
  refine RC.seq ?_
  refine RC.region rfl ?_
  refine RL.ev (.move rfl) rfl rfl ?_
  refine RL.ev (.move rfl) rfl rfl ?_
  refine RL.ev (.len sl25 rfl) rfl rfl ?_
  refine RL.ev (.as (v' := .int .i64 (n : Int)) (.min2 rfl rfl) (by congr 1; split <;> omega)) rfl rfl ?_
  refine RL.ev (.as (v' := .slice pa l.length pc) (.sliceHi sl25 rfl rfl (by omega)) (by rw [hnl]; rfl)) rfl rfl ?_
  refine RL.ev (.assign rfl) rfl rfl ?_
  refine RL.nil (RC.back ?_)
  refine RC.seq ?_
  refine RC.region rfl ?_
  refine RL.ev (.move rfl) rfl rfl ?_
  refine RL.ev (.as (v' := .int .i64 (n : Int)) (.len sl25 rfl) (by rw [hnl])) rfl rfl ?_
  refine RL.ev (.assign rfl) rfl rfl ?_
  refine RL.nil (RC.back ?_)
  refine RC.seq ?_
  refine RC.region rfl ?_
  refine RL.call rfl ok29 (c_aNew 512 ⟨by decide, by decide⟩ w) rfl rfl ?_
  rintro _ w1 ⟨na0, fa0, nc0, fc0, rfl, hnc0, hfc0, hn00, s2⟩
  have hA := Ft.new hn00 s2
  have S := S.trans s2
  refine RL.ev (.move rfl) rfl rfl ?_
  refine RL.ev (.extract rfl rfl) rfl rfl ?_
  refine RL.ev (.extract rfl rfl) rfl rfl ?_
  refine RL.alloc ze34 rfl rfl (fun b_6 w_6 e_6 z_6 hb_6 s_6 => ?_)
  have ge_6 := S.le e_6
  have d_hA_b_6 := hA.neNew e_6
  have S := S.trans s_6
  have hA := hA.sub s_6
  refine RL.store sh34 rfl rfl rfl hb_6 (by exact Nat.le_of_ble_eq_true rfl) (by rfl) rfl (fun w3 z3 hb_6 a3 => ?_)
  have S := S.upd a3 ge_6
  have hA := hA.updD a3 d_hA_b_6
  have hb_6 : Has w3 b_6 ([.slice na0 (newA 512).nodes.length nc0, .slice fa0 (newA 512).free.length fc0]) _ := hb_6.now (by kernel_rfl)
  refine RL.ev (.assign rfl) rfl rfl ?_
  refine RL.nil (RC.back ?_)
  refine RC.seq ?_
  refine RC.region rfl ?_
  refine RL.call rfl ok29 (c_aNew 512 ⟨by decide, by decide⟩ w3) rfl rfl ?_
  rintro _ w4 ⟨na1, fa1, nc1, fc1, rfl, hnc1, hfc1, hn01, s5⟩
  have d_hB_b_6 := neFt (w' := w4) (fun _ (h : False) => h.elim) hb_6.lt
  have hB := Ft.new hn01 s5
  have S := S.trans s5
  have hA := hA.sub s5
  have hb_6 := hb_6.sub s5
  refine RL.ev (.move rfl) rfl rfl ?_
  refine RL.ev (.extract rfl rfl) rfl rfl ?_
  refine RL.ev (.extract rfl rfl) rfl rfl ?_
  refine RL.alloc ze34 rfl rfl (fun b_8 w_8 e_8 z_8 hb_8 s_8 => ?_)
  have ge_8 := S.le e_8
  have n_6__8 := hb_6.ne e_8
  have d_hA_b_8 := hA.neNew e_8
  have d_hB_b_8 := hB.neNew e_8
  have S := S.trans s_8
  have hA := hA.sub s_8
  have hb_6 := hb_6.sub s_8
  have hB := hB.sub s_8
  refine RL.store sh34 rfl rfl rfl hb_8 (by exact Nat.le_of_ble_eq_true rfl) (by rfl) rfl (fun w6 z6 hb_8 a6 => ?_)
  have S := S.upd a6 ge_8
  have hA := hA.updD a6 d_hA_b_8
  have hb_6 := hb_6.upd a6 n_6__8
  have hB := hB.updD a6 d_hB_b_8
  have hb_8 : Has w6 b_8 ([.slice na1 (newA 512).nodes.length nc1, .slice fa1 (newA 512).free.length fc1]) _ := hb_8.now (by kernel_rfl)
  refine RL.ev (.assign rfl) rfl rfl ?_
  refine RL.nil (RC.back ?_)
  refine RC.seq ?_
  refine RC.region rfl ?_
  refine RL.ev (.assign rfl) rfl rfl ?_
  refine RL.ev (.assign rfl) rfl rfl ?_
  refine RL.nil (RC.back ?_)
  refine RC.seq ?_
  refine RC.region rfl ?_
  refine RL.buildSlice0 sl26 rfl rfl (fun b_37 w_37 e_37 z_37 hb_37 s_37 => ?_)
  have ge_37 := S.le e_37
  have n_6__37 := hb_6.ne e_37
  have n_8__37 := hb_8.ne e_37
  have d_hA_b_37 := hA.neNew e_37
  have d_hB_b_37 := hB.neNew e_37
  have S := S.trans s_37
  have hA := hA.sub s_37
  have hb_6 := hb_6.sub s_37
  have hB := hB.sub s_37
  have hb_8 := hb_8.sub s_37
  refine RL.ev (.assign rfl) rfl rfl ?_
  refine RL.nil (RC.back ?_)
  refine RC.seq ?_
  refine RC.seq ?_
  refine RC.region rfl ?_
  refine RL.ev (.move rfl) rfl rfl ?_
  refine RL.ev (.len sl25 rfl) rfl rfl ?_
  refine RL.ev (.move rfl) rfl rfl ?_
  refine RL.nil (RC.back ?_)
  refine RC.block ?_
  refine RC.loop (α := Nat × (Ar × (Option Addr × Option Addr × Nat × Nat) × Int × (Nat → Prop)) × (Ar × (Option Addr × Option Addr × Nat × Nat) × Int × (Nat → Prop)) × (Option Addr × Nat × Nat)) (fun x => [(0, .slice pa l.length pc), (1, .int .i64 n0), (5, .int .i64 (n : Int)), (6, .pointer (some ⟨b_6, 0, none⟩)), (7, .int .i64 0), (8, .pointer (some ⟨b_8, 0, none⟩)), (9, .int .i64 0), (10, .int .u64 x.2.1.2.2.1), (11, .int .u64 x.2.2.1.2.2.1), (12, .slice x.2.2.2.1 x.2.2.2.2.1 x.2.2.2.2.2), (38, .slice pa l.length pc), (39, .int .i64 (l.length : Int)), (40, .int .i64 (x.1 : Int))]) (fun x w7 => (x.1 ≤ n ∧ (U64 x.2.1.2.2.1 ∧ AOk x.2.1.1 ∧ IsH x.2.1.1 10 x.2.1.2.2.1 (rowSH (k50H l) x.1) ∧ x.2.1.1.nodes.length ≤ x.2.1.2.1.2.2.1 ∧ x.2.1.1.free.length ≤ x.2.1.2.1.2.2.2) ∧ (U64 x.2.2.1.2.2.1 ∧ AOk x.2.2.1.1 ∧ IsH x.2.2.1.1 10 x.2.2.1.2.2.1 (rowSH (rot50H l c n) x.1) ∧ x.2.2.1.1.nodes.length ≤ x.2.2.1.2.1.2.2.1 ∧ x.2.2.1.1.free.length ≤ x.2.2.1.2.1.2.2.2)) ∧ Has w7 b_6 [.slice x.2.1.2.1.1 x.2.1.1.nodes.length x.2.1.2.1.2.2.1, .slice x.2.1.2.1.2.1 x.2.1.1.free.length x.2.1.2.1.2.2.2] 34 ∧ Has w7 b_8 [.slice x.2.2.1.2.1.1 x.2.2.1.1.nodes.length x.2.2.1.2.1.2.2.1, .slice x.2.2.1.2.1.2.1 x.2.2.1.1.free.length x.2.2.1.2.1.2.2.2] 34 ∧ Ft x.2.1.2.2.2 (fun u => ArR u x.2.1.2.1.1 x.2.1.2.1.2.1 x.2.1.1) w7 ∧ Ft x.2.2.1.2.2.2 (fun u => ArR u x.2.2.1.2.1.1 x.2.2.1.2.1.2.1 x.2.2.1.1) w7 ∧ (∀ k, x.2.1.2.2.2 k → k ≠ b_6) ∧ (∀ k, x.2.1.2.2.2 k → k ≠ b_8) ∧ (∀ k, x.2.2.1.2.2.2 k → k ≠ b_6) ∧ (∀ k, x.2.2.1.2.2.2 k → k ≠ b_8) ∧ Ows w.heap.size w7 29 2 (.slice x.2.2.2.1 x.2.2.2.2.1 x.2.2.2.2.2) ((rowSH (k50H l) x.1).map It.cells) ∧ (∀ k, ob (.slice x.2.2.2.1 x.2.2.2.2.1 x.2.2.2.2.2) = some k → k ≠ b_6) ∧ (∀ k, ob (.slice x.2.2.2.1 x.2.2.2.2.1 x.2.2.2.2.2) = some k → k ≠ b_8) ∧ Sub w w7) (fun x => n - x.1) (0, (newA 512, (na0, fa0, nc0, fc0), 0, _), (newA 512, (na1, fa1, nc1, fc1), 0, _), (some ⟨b_37, 0, none⟩, 0, 0)) (keep_of (by repeat (first | exact trivial | refine And.intro rfl ?_))) (⟨⟨Nat.zero_le _, ⟨zu0, newA_ok ⟨by decide, by decide⟩, isH_nil.2 rfl, hnc0, hfc0⟩, ⟨zu0, newA_ok ⟨by decide, by decide⟩, isH_nil.2 rfl, hnc1, hfc1⟩⟩, hb_6, hb_8, hA, hB, d_hA_b_6, d_hA_b_8, d_hB_b_6, d_hB_b_8, Ows.lit0 hb_37 (by omega), fun k hk e => n_6__37 (e.symm.trans (obLit hk).symm), fun k hk e => n_8__37 (e.symm.trans (obLit hk).symm), S⟩) (fun x w7 hJ => ?_)
  obtain ⟨i, ⟨A, ⟨na, fa, nc, fc⟩, r1, M1⟩, ⟨B, ⟨nb, fb, ncb, fcb⟩, r2, M2⟩, ⟨ra, rm, rc⟩⟩ := x; obtain ⟨⟨hi, ⟨hu1, hA1, hT1, hnc, hfc⟩, ⟨hu2, hA2, hT2, hncb, hfcb⟩⟩, hb_6, hb_8, hA, hB, dA6, dA8, dB6, dB8, o, dO6, dO8, S⟩ := hJ; simp only [] at hi hu1 hA1 hT1 hnc hfc hu2 hA2 hT2 hncb hfcb hb_6 hb_8 hA hB dA6 dA8 dB6 dB8 o dO6 dO8; obtain rfl := o.sl.2; have hl1 := rowSH_len (k50H l) i; have hl2 := rowSH_len (rot50H l c n) i; have hap1 := (rowSH_srt (k50H l) i).ap; have hap2 := (rowSH_srt (rot50H l c n) i).ap; have hlo1 := rowSH_low (k50H_rng l) i; have hlo2 := rowSH_low (fun j => k50H_rng l ((j + c) % n)) i; have hm1 := hA1.most; have hm2 := hA2.most
  refine RC.seq ?_
  refine RC.region rfl ?_
  refine RL.ev (.bin rfl rfl rfl) rfl rfl ?_
  refine RL.nil (RC.back ?_)
  refine RC.seq ?_
  refine RC.cond_dec rfl (fun h8 => ?_) (fun h8 => ?_)
  ·
    have hn1 : 0 < n := (by omega)
    have hcc := hc hn1
    obtain ⟨x, hx⟩ := getSome (l := l) (i := i) (by omega)
    obtain ⟨y, hy⟩ := getSome (l := l) (i := (i + c) % n) (by rw [hnl]; exact Nat.mod_lt _ hn1)
    have hxi : -9223372036854775808 ≤ x ∧ x ≤ 9223372036854775807 := hli x (List.mem_of_getElem? hx)
    have hyi : -9223372036854775808 ≤ y ∧ y ≤ 9223372036854775807 := hli y (List.mem_of_getElem? hy)
    have nmx := norm_mod x 50 (by decide)
    have nmy := norm_mod y 50 (by decide)
    have hmodlt := Nat.mod_lt (i + c) hn1
    have hkx : k50H l i = x % 50 := (by unfold k50H; rw [List.getD_eq_getElem?_getD, hx]; rfl)
    have hky : rot50H l c n i = y % 50 := (by unfold rot50H k50H; rw [List.getD_eq_getElem?_getD, hy]; rfl)
    refine RC.skip (RC.back ?_)
    refine RC.seq ?_
    refine RC.block ?_
    refine RC.seq ?_
    refine RC.region rfl ?_
    refine RL.ev (.move rfl) rfl rfl ?_
    refine RL.ev (.assign rfl) rfl rfl ?_
    refine RL.nil (RC.back ?_)
    refine RC.seq ?_
    refine RC.draw rfl mxo (by kernel_rfl) ?_
    refine RQ.ev (.move rfl) rfl rfl ?_
    refine RQ.ev (.move rfl) rfl rfl ?_
    refine RQ.ev (.indexS sl25 rfl rfl (by omega) (hs.is (i := 0) (by simp only [List.length_map, List.length_cons, List.length_nil]; omega))) rfl rfl ?_
    refine RQ.ev (.load1 sh2 rfl ((hs.sub S).one (enc := i6) (i := i) hx)) rfl rfl ?_
    refine RQ.ev (.rem rfl rfl (by decide)) rfl rfl ?_
    refine RQ.ev (.as (.bin rfl rfl rfl) (wi64 (y := x.tmod 50 + 50) (by rfl) (by omega))) rfl rfl ?_
    refine RQ.ev (.as (v' := .int .i64 (x % 50)) (.rem rfl rfl (by decide)) (by rw [nmx.2.2])) rfl rfl ?_
    refine RQ.ev (.move rfl) rfl rfl ?_
    refine RQ.ev (.move rfl) rfl rfl ?_
    refine RQ.ev (.move rfl) rfl rfl ?_
    refine RQ.ev (.move rfl) rfl rfl ?_
    refine RQ.ev (.rem rfl rfl (by omega)) rfl rfl ?_
    refine RQ.ev (.move rfl) rfl rfl ?_
    refine RQ.ev (.as (.bin rfl rfl rfl) (wi64 (y := (c : Int)) (by rw [hcc]) (by omega))) rfl rfl ?_
    refine RQ.ev (.as (.bin rfl rfl rfl) (wi64 (y := ((i + c : Nat) : Int)) (by omega) (by omega))) rfl rfl ?_
    refine RQ.ev (.move rfl) rfl rfl ?_
    refine RQ.ev (.as (v' := .int .i64 (((i + c) % n : Nat) : Int)) (.rem rfl rfl (by omega)) (by rw [Int.tmod_eq_emod_of_nonneg (by omega)]; rfl)) rfl rfl ?_
    refine RQ.ev (.indexS sl25 rfl rfl (by omega) (hs.is (i := 0) (by simp only [List.length_map, List.length_cons, List.length_nil]; omega))) rfl rfl ?_
    refine RQ.ev (.load1 sh2 rfl ((hs.sub S).one (enc := i6) (i := (i + c) % n) hy)) rfl rfl ?_
    refine RQ.ev (.rem rfl rfl (by decide)) rfl rfl ?_
    refine RQ.ev (.as (.bin rfl rfl rfl) (wi64 (y := y.tmod 50 + 50) (by rfl) (by omega))) rfl rfl ?_
    refine RQ.ev (.as (v' := .int .i64 (y % 50)) (.rem rfl rfl (by decide)) (by rw [nmy.2.2])) rfl rfl ?_
    refine RQ.ev (.assign rfl) rfl rfl ?_
    refine RQ.ev (.assign rfl) rfl rfl ?_
    refine RQ.nil (fun w9 s10 => RC.back ?_)
    have S := S.trans s10
    have hb_6 := hb_6.sub s10
    have hb_8 := hb_8.sub s10
    have hA := hA.sub s10
    have hB := hB.sub s10
    have o := o.sub s10
    refine RC.seq ?_
    refine RC.region rfl ?_
    refine RL.ev (.loadR ([.slice na A.nodes.length nc, .slice fa A.free.length fc]) sh34 rfl hb_6.row rfl) rfl rfl ?_
    refine RL.ev (.move rfl) rfl rfl ?_
    refine RL.ev (.move rfl) rfl rfl ?_
    refine RL.ev (.move rfl) rfl rfl ?_
    refine RL.call rfl ok30 (c_hPut A na fa nc fc hnc hfc r1 (x % 50) (x % 50) hu1 (by unfold I64; omega) (by unfold I64; omega) M1 w9 hA) rfl rfl ?_
    rintro _ w11 ⟨s12, na', fa', nc', fc', A', r1', e1, M1', rfl, hu1', hnc', hfc', hA', hup1, hpp⟩
    have d_hA'_b_6 := upNe hup1 dA6 hb_6.lt
    have d_hA'_b_8 := upNe hup1 dA8 hb_8.lt
    have S := S.trans s12
    have hb_6 := hb_6.sub s12
    have hb_8 := hb_8.sub s12
    have hA := hA.sub s12
    have hB := hB.sub s12
    have o := o.sub s12
    have hP1 := (put_twoH hpp (tab_of hA1 hT1 hap1 (by omega)) hT1 hap1).2 (low_bad hap1 hlo1 (by omega))
    have hc1 := cnt_low (hap1.put (key := x % 50) (v := x % 50)) (hlo1.put (by omega))
    refine RL.ev (.move rfl) rfl rfl ?_
    refine RL.ev (.extract rfl rfl) rfl rfl ?_
    refine RL.ev (.extract rfl rfl) rfl rfl ?_
    refine RL.ev (.extract rfl rfl) rfl rfl ?_
    refine RL.alloc ze34 rfl rfl (fun b_16 w_16 e_16 z_16 hb_16 s_16 => ?_)
    have ge_16 := S.le e_16
    have n_6__16 := hb_6.ne e_16
    have n_8__16 := hb_8.ne e_16
    have d_hB_b_16 := hB.neNew e_16
    have d_o_b_16 := o.neNew e_16
    have d_hA'_b_16 := hA'.neNew e_16
    have S := S.trans s_16
    have hb_6 := hb_6.sub s_16
    have hb_8 := hb_8.sub s_16
    have hB := hB.sub s_16
    have o := o.sub s_16
    have hA' := hA'.sub s_16
    refine RL.store sh34 rfl rfl rfl hb_16 (by exact Nat.le_of_ble_eq_true rfl) (by rfl) rfl (fun w13 z13 hb_16 a13 => ?_)
    have S := S.upd a13 ge_16
    have hb_6 := hb_6.upd a13 n_6__16
    have hb_8 := hb_8.upd a13 n_8__16
    have hB := hB.updD a13 d_hB_b_16
    have o := o.updD a13 d_o_b_16
    have hA' := hA'.updD a13 d_hA'_b_16
    have hb_16 : Has w13 b_16 ([.slice na' A'.nodes.length nc', .slice fa' A'.free.length fc']) _ := hb_16.now (by kernel_rfl)
    refine RL.ev (.assign rfl) rfl rfl ?_
    refine RL.ev (.assign rfl) rfl rfl ?_
    refine RL.nil (RC.back ?_)
    refine RC.seq ?_
    refine RC.region rfl ?_
    refine RL.ev (.loadR ([.slice nb B.nodes.length ncb, .slice fb B.free.length fcb]) sh34 rfl hb_8.row rfl) rfl rfl ?_
    refine RL.ev (.move rfl) rfl rfl ?_
    refine RL.ev (.move rfl) rfl rfl ?_
    refine RL.ev (.move rfl) rfl rfl ?_
    refine RL.call rfl ok30 (c_hPut B nb fb ncb fcb hncb hfcb r2 (y % 50) (y % 50) hu2 (by unfold I64; omega) (by unfold I64; omega) M2 w13 hB) rfl rfl ?_
    rintro _ w14 ⟨s15, nb', fb', ncb', fcb', B', r2', e2, M2', rfl, hu2', hncb', hfcb', hB', hup2, hpp2⟩
    have d_hB'_b_6 := upNe hup2 dB6 hb_6.lt
    have d_hB'_b_8 := upNe hup2 dB8 hb_8.lt
    have d_hB'_b_16 := upNe hup2 d_hB_b_16 hb_16.lt
    have S := S.trans s15
    have hb_6 := hb_6.sub s15
    have hb_8 := hb_8.sub s15
    have hB := hB.sub s15
    have o := o.sub s15
    have hA' := hA'.sub s15
    have hb_16 := hb_16.sub s15
    have hP2 := (put_twoH hpp2 (tab_of hA2 hT2 hap2 (by omega)) hT2 hap2).2 (low_bad hap2 hlo2 (by omega))
    have hc2 := cnt_low (hap2.put (key := y % 50) (v := y % 50)) (hlo2.put (by omega))
    refine RL.ev (.move rfl) rfl rfl ?_
    refine RL.ev (.extract rfl rfl) rfl rfl ?_
    refine RL.ev (.extract rfl rfl) rfl rfl ?_
    refine RL.ev (.extract rfl rfl) rfl rfl ?_
    refine RL.alloc ze34 rfl rfl (fun b_19 w_19 e_19 z_19 hb_19 s_19 => ?_)
    have ge_19 := S.le e_19
    have n_6__19 := hb_6.ne e_19
    have n_8__19 := hb_8.ne e_19
    have n_16__19 := hb_16.ne e_19
    have d_o_b_19 := o.neNew e_19
    have d_hA'_b_19 := hA'.neNew e_19
    have d_hB'_b_19 := hB'.neNew e_19
    have S := S.trans s_19
    have hb_6 := hb_6.sub s_19
    have hb_8 := hb_8.sub s_19
    have o := o.sub s_19
    have hA' := hA'.sub s_19
    have hb_16 := hb_16.sub s_19
    have hB' := hB'.sub s_19
    refine RL.store sh34 rfl rfl rfl hb_19 (by exact Nat.le_of_ble_eq_true rfl) (by rfl) rfl (fun w16 z16 hb_19 a16 => ?_)
    have S := S.upd a16 ge_19
    have hb_6 := hb_6.upd a16 n_6__19
    have hb_8 := hb_8.upd a16 n_8__19
    have o := o.updD a16 d_o_b_19
    have hA' := hA'.updD a16 d_hA'_b_19
    have hb_16 := hb_16.upd a16 n_16__19
    have hB' := hB'.updD a16 d_hB'_b_19
    have hb_19 : Has w16 b_19 ([.slice nb' B'.nodes.length ncb', .slice fb' B'.free.length fcb']) _ := hb_19.now (by kernel_rfl)
    refine RL.ev (.assign rfl) rfl rfl ?_
    refine RL.ev (.assign rfl) rfl rfl ?_
    refine RL.nil (RC.back ?_)
    refine RC.seq ?_
    refine RC.seq ?_
    refine RC.region rfl ?_
    refine RL.ev (.move rfl) rfl rfl ?_
    refine RL.ev (.bin rfl rfl rfl) rfl rfl ?_
    refine RL.ev (.move rfl) rfl rfl ?_
    refine RL.split 85 rfl (fun h17 => ?_) (fun h17 => ?_)
    ·
      have hfull := hP1.resolve_right (fun h => h17 h.1)
      refine RL.off rfl rfl ?_
      refine RL.off rfl rfl ?_
      refine RL.ev (.pick_t rfl rfl) rfl rfl ?_
      refine RL.nil (RC.back ?_)
      refine RC.cond_t rfl ?_
      refine RC.seq ?_
      refine RC.region rfl ?_
      refine RL.call rfl ok31 (c_alive9 w16) rfl rfl ?_
      rintro _ w18 ⟨rfl, s19⟩
      have S := S.trans s19
      have hb_6 := hb_6.sub s19
      have hb_8 := hb_8.sub s19
      have o := o.sub s19
      have hA' := hA'.sub s19
      have hb_16 := hb_16.sub s19
      have hB' := hB'.sub s19
      have hb_19 := hb_19.sub s19
      refine RL.ev (.move rfl) rfl rfl ?_
      refine RL.ev (.field0 fo34_1 rfl) rfl rfl ?_
      refine RL.ev (.load1 sh32 rfl (hb_6.cell rfl)) rfl rfl ?_
      refine RL.ev (.len sl32 rfl) rfl rfl ?_
      refine RL.ev (.as (v' := .bool true) (.bin rfl rfl rfl) (congrArg Value.bool (decide_eq_true (by omega)))) rfl rfl ?_
      refine RL.ev (.move rfl) rfl rfl ?_
      refine RL.off rfl rfl ?_
      refine RL.off rfl rfl ?_
      refine RL.off rfl rfl ?_
      refine RL.off rfl rfl ?_
      refine RL.ev (.pick_t rfl rfl) rfl rfl ?_
      refine RL.ev (.pick_t rfl rfl) rfl rfl ?_
      refine RL.ev (.assign rfl) rfl rfl ?_
      refine RL.nil (RC.back ?_)
      refine RC.done (rs := [.tmp 4]) (vs := [_]) rfl rfl ⟨rfl, trivial⟩ ?_
      -- end 1
      exact ⟨rfl, S⟩
    ·
      obtain ⟨he1, hx1, hA1', hf1', hT1'⟩ := hP1.resolve_left (fun h => h17 (by omega))
      refine RL.ev (.move rfl) rfl rfl ?_
      refine RL.ev (.bin rfl rfl rfl) rfl rfl ?_
      refine RL.ev (.pick_f rfl rfl) rfl rfl ?_
      refine RL.nil (RC.back ?_)
      refine RC.cond_dec rfl (fun h20 => ?_) (fun h20 => ?_)
      ·
        have hfull := hP2.resolve_right (fun h => h20 h.1)
        refine RC.seq ?_
        refine RC.region rfl ?_
        refine RL.call rfl ok31 (c_alive9 w16) rfl rfl ?_
        rintro _ w21 ⟨rfl, s22⟩
        have S := S.trans s22
        have hb_6 := hb_6.sub s22
        have hb_8 := hb_8.sub s22
        have o := o.sub s22
        have hA' := hA'.sub s22
        have hb_16 := hb_16.sub s22
        have hB' := hB'.sub s22
        have hb_19 := hb_19.sub s22
        refine RL.ev (.move rfl) rfl rfl ?_
        refine RL.ev (.field0 fo34_1 rfl) rfl rfl ?_
        refine RL.ev (.load1 sh32 rfl (hb_6.cell rfl)) rfl rfl ?_
        refine RL.ev (.len sl32 rfl) rfl rfl ?_
        refine RL.ev (.bin rfl rfl rfl) rfl rfl ?_
        refine RL.ev (.move rfl) rfl rfl ?_
        refine RL.split 95 rfl (fun h23 => ?_) (fun h23 => ?_)
        ·
          refine RL.off rfl rfl ?_
          refine RL.off rfl rfl ?_
          refine RL.off rfl rfl ?_
          refine RL.off rfl rfl ?_
          refine RL.ev (.pick_t rfl rfl) rfl rfl ?_
          refine RL.ev (.pick_t rfl rfl) rfl rfl ?_
          refine RL.ev (.assign rfl) rfl rfl ?_
          refine RL.nil (RC.back ?_)
          refine RC.done (rs := [.tmp 4]) (vs := [_]) rfl rfl ⟨rfl, trivial⟩ ?_
          -- end 2
          exact ⟨rfl, S⟩
        ·
          refine RL.ev (.field0 fo34_1 rfl) rfl rfl ?_
          refine RL.ev (.load1 sh32 rfl (hb_8.cell rfl)) rfl rfl ?_
          refine RL.ev (.len sl32 rfl) rfl rfl ?_
          refine RL.ev (.as (v' := .bool true) (.bin rfl rfl rfl) (congrArg Value.bool (decide_eq_true (by omega)))) rfl rfl ?_
          refine RL.ev (.pick_f rfl rfl) rfl rfl ?_
          refine RL.ev (.pick_t rfl rfl) rfl rfl ?_
          refine RL.ev (.assign rfl) rfl rfl ?_
          refine RL.nil (RC.back ?_)
          refine RC.done (rs := [.tmp 4]) (vs := [_]) rfl rfl ⟨rfl, trivial⟩ ?_
          -- end 3
          exact ⟨rfl, S⟩
      ·
        obtain ⟨he2, hx2, hA2', hf2', hT2'⟩ := hP2.resolve_left (fun h => h20 (by omega))
        refine RC.skip (RC.back ?_)
        refine RC.drawD (fun k => k = b_6 ∨ k = b_8) [8, 10] w16.heap.size 13 rfl rfl mxo (fun w24 s25 => ?_)
        have hNN : ∀ k, ((k = b_6 ∨ k = b_8) ∨ w16.heap.size ≤ k) → w.heap.size ≤ k := fun k e => e.elim (fun e => e.elim (fun e => e ▸ ge_6) (fun e => e ▸ ge_8)) (fun e => Nat.le_trans S.size e)
        have ent_S := S.size
        have hN0 : ∀ k, w16.heap.size ≤ k → w.heap.size ≤ k := fun k e => Nat.le_trans S.size e
        have ltD_b_6 := hb_6.lt
        have ltD_b_8 := hb_8.lt
        have ltD_o := fun k hk => (o.ge k hk).2
        have ltD_hA' := fun k hk => (hA'.ge k hk).2
        have ltD_b_16 := hb_16.lt
        have ltD_hB' := fun k hk => (hB'.ge k hk).2
        have ltD_b_19 := hb_19.lt
        have szD := Nat.le_refl w16.heap.size
        have S := S.trans s25
        have hb_6 := hb_6.sub s25
        have hb_8 := hb_8.sub s25
        have o := o.sub s25
        have hA' := hA'.sub s25
        have hb_16 := hb_16.sub s25
        have hB' := hB'.sub s25
        have hb_19 := hb_19.sub s25
        have szD := Nat.le_trans szD s25.size
        refine RD.take 0 rfl (by kernel_rfl) (by kernel_rfl) (by kernel_rfl) (fun w' s' => .loadR ([.slice na' A'.nodes.length nc', .slice fa' A'.free.length fc']) sh34 rfl (hb_16.step s' (fun e => e.elim (fun e => e.elim (fun e => n_6__16.symm e) (fun e => n_8__16.symm e)) (fun e => Nat.not_le.2 ltD_b_16 e))).row rfl) rfl rfl ?_
        refine RD.take 1 rfl (by kernel_rfl) (by kernel_rfl) (by kernel_rfl) (fun w' s' => .move rfl) rfl rfl ?_
        refine RD.take 2 rfl (by kernel_rfl) (by kernel_rfl) (by kernel_rfl) (fun w' s' => .loadR ([.slice nb' B'.nodes.length ncb', .slice fb' B'.free.length fcb']) sh34 rfl (hb_19.step s' (fun e => e.elim (fun e => e.elim (fun e => n_6__19.symm e) (fun e => n_8__19.symm e)) (fun e => Nat.not_le.2 ltD_b_19 e))).row rfl) rfl rfl ?_
        refine RD.take 3 rfl (by kernel_rfl) (by kernel_rfl) (by kernel_rfl) (fun w' s' => .move rfl) rfl rfl ?_
        refine RD.take 4 rfl (by kernel_rfl) (by kernel_rfl) (by kernel_rfl) (fun w' s' => .move rfl) rfl rfl ?_
        refine RD.take 5 rfl (by kernel_rfl) (by kernel_rfl) (by kernel_rfl) (fun w' s' => .move rfl) rfl rfl ?_
        refine RD.take 6 rfl (by kernel_rfl) (by kernel_rfl) (by kernel_rfl) (fun w' s' => .move rfl) rfl rfl ?_
        refine RD.all [7] (by kernel_rfl) rfl (RDs.cons rfl ?_ (RDs.nil))
        refine RL.call rfl ok16 (c_refPut (rowSH (k50H l) i) ra rc _ (List.length_map _) (x % 50) (x % 50) w24 o.sl.1 (by omega)) rfl rfl ?_
        rintro vr w26 ⟨a1, c1, hvr, o1, s27⟩
        have d1_6 := owNewH o1 hb_6.lt
        have d1_8 := owNewH o1 hb_8.lt
        have o1 := o1.low S.size
        have S := S.trans s27
        have hb_6 := hb_6.sub s27
        have hb_8 := hb_8.sub s27
        have hA' := hA'.sub s27
        have hb_16 := hb_16.sub s27
        have hB' := hB'.sub s27
        have hb_19 := hb_19.sub s27
        have szD := Nat.le_trans szD s27.size
        rw [putR_putL (rowSH_srt _ i), show putL (rowSH (k50H l) i) (x % 50) (x % 50) = rowSH (k50H l) (i + 1) from by rw [rowSH, hkx]] at hvr o1 d1_6 d1_8
        subst hvr
        refine RD.back s27.agr ?_
        refine RD.all [8] (by kernel_rfl) rfl (RDs.cons rfl ?_ (RDs.nil))
        refine RL.store sh34 rfl rfl rfl hb_6 (by exact Nat.le_of_ble_eq_true rfl) (by rfl) rfl (fun w28 z28 hb_6 a28 => ?_)
        have S := S.upd a28 ge_6
        have hb_8 := hb_8.upd a28 n_6__8.symm
        have hA' := hA'.updD a28 d_hA'_b_6
        have hb_16 := hb_16.upd a28 n_6__16.symm
        have hB' := hB'.updD a28 d_hB'_b_6
        have hb_19 := hb_19.upd a28 n_6__19.symm
        have szD := Nat.le_trans szD a28.size
        have o1 := o1.updD a28 (fun k hk => d1_6 k hk)
        have hb_6 : Has w28 b_6 ([.slice na' A'.nodes.length nc', .slice fa' A'.free.length fc']) _ := hb_6.now (by kernel_rfl)
        refine RD.backW rfl (a28.mono fun k _ e => e ▸ (.inl (.inl rfl))) ?_
        refine RD.take 9 rfl (by kernel_rfl) (by kernel_rfl) (by kernel_rfl) (fun w' s' => .assign rfl) rfl rfl ?_
        refine RD.all [10] (by kernel_rfl) rfl (RDs.cons rfl ?_ (RDs.nil))
        refine RL.store sh34 rfl rfl rfl hb_8 (by exact Nat.le_of_ble_eq_true rfl) (by rfl) rfl (fun w29 z29 hb_8 a29 => ?_)
        have S := S.upd a29 ge_8
        have hb_6 := hb_6.upd a29 n_6__8
        have hA' := hA'.updD a29 d_hA'_b_8
        have hb_16 := hb_16.upd a29 n_8__16.symm
        have hB' := hB'.updD a29 d_hB'_b_8
        have hb_19 := hb_19.upd a29 n_8__19.symm
        have szD := Nat.le_trans szD a29.size
        have o1 := o1.updD a29 (fun k hk => d1_8 k hk)
        have hb_8 : Has w29 b_8 ([.slice nb' B'.nodes.length ncb', .slice fb' B'.free.length fcb']) _ := hb_8.now (by kernel_rfl)
        refine RD.backW rfl (a29.mono fun k _ e => e ▸ (.inl (.inr (rfl)))) ?_
        refine RD.take 11 rfl (by kernel_rfl) (by kernel_rfl) (by kernel_rfl) (fun w' s' => .assign rfl) rfl rfl ?_
        refine RD.take 12 rfl (by kernel_rfl) (by kernel_rfl) (by kernel_rfl) (fun w' s' => .assign rfl) rfl rfl ?_
        refine RD.done (by kernel_rfl) (RC.back ?_)
        refine RC.region rfl ?_
        refine RL.ev (.as (.bin rfl rfl rfl) (wi64 (y := ((i + 1 : Nat) : Int)) (by omega) (by omega))) rfl rfl ?_
        refine RL.ev (.move rfl) rfl rfl ?_
        exact RL.nil (fun a ka => ⟨(i + 1, (A', (na', fa', nc', fc'), r1', M1'), (B', (nb', fb', ncb', fcb'), r2', M2'), (a1, _, c1)), ⟨⟨by omega, ⟨hu1', hA1', by rw [rowSH, hkx]; exact hT1'.perm putL_putM.symm, hnc', hfc'⟩, ⟨hu2', hA2', by show IsH B' 10 r2' (putL (rowSH (rot50H l c n) i) (rot50H l c n i) (rot50H l c n i)); rw [hky]; exact hT2'.perm putL_putM.symm, hncb', hfcb'⟩⟩, hb_6, hb_8, hA', hB', d_hA'_b_6, d_hA'_b_8, d_hB'_b_6, d_hB'_b_8, o1, d1_6, d1_8, S⟩, by omega, ka.keep (keep_of (by repeat (first | exact trivial | refine And.intro rfl ?_)))⟩)
  ·
    have hin : i = n := (by omega)
    have hoc : (rowSH (k50H l) i).length ≤ rc := (by obtain ⟨_, c', e, h⟩ := o.form; cases e; rw [List.length_map] at h; exact h)
    have hrot : rowSH (rot50H l c n) i = rowSH (k50H l) i := (by subst hin; by_cases h : 0 < i; exact rot_rowH l c i h; (obtain rfl : i = 0 := (by omega)); rfl)
    rw [hrot] at hT2
    refine RC.exit rfl (RC.back ?_)
    refine RC.seq ?_
    refine RC.region rfl ?_
    refine RL.call rfl ok31 (c_alive9 w7) rfl rfl ?_
    rintro _ w30 ⟨rfl, s31⟩
    have S := S.trans s31
    have hb_6 := hb_6.sub s31
    have hb_8 := hb_8.sub s31
    have hA := hA.sub s31
    have hB := hB.sub s31
    have o := o.sub s31
    refine RL.ev (.move rfl) rfl rfl ?_
    refine RL.ev (.move rfl) rfl rfl ?_
    refine RL.ev (.as (v' := .bool true) (.bin rfl rfl rfl) (congrArg Value.bool (decide_eq_true (rfl)))) rfl rfl ?_
    refine RL.ev (.pick_t rfl rfl) rfl rfl ?_
    refine RL.ev (.move rfl) rfl rfl ?_
    refine RL.ev (.move rfl) rfl rfl ?_
    refine RL.ev (.as (v' := .bool true) (.bin rfl rfl rfl) (congrArg Value.bool (decide_eq_true (rfl)))) rfl rfl ?_
    refine RL.ev (.pick_t rfl rfl) rfl rfl ?_
    refine RL.ev (.move rfl) rfl rfl ?_
    refine RL.ev (.loadR ([.slice na A.nodes.length nc, .slice fa A.free.length fc]) sh34 rfl hb_6.row rfl) rfl rfl ?_
    refine RL.ev (.move rfl) rfl rfl ?_
    refine RL.ev (.move rfl) rfl rfl ?_
    refine RL.call rfl ok32 (c_isYesH A na fa nc fc (by omega) r1 (rowSH (k50H l) i) (rowSH (k50H l) i) (List.Perm.refl _) ra rc _ hap1 (List.length_map _) hu1 (by omega) hT1 w30 hA.now o.sl.1) rfl rfl ?_
    rintro _ w32 ⟨rfl, s33⟩
    have S := S.trans s33
    have hb_6 := hb_6.sub s33
    have hb_8 := hb_8.sub s33
    have hA := hA.sub s33
    have hB := hB.sub s33
    have o := o.sub s33
    refine RL.ev (.pick_t rfl rfl) rfl rfl ?_
    refine RL.ev (.move rfl) rfl rfl ?_
    refine RL.ev (.loadR ([.slice nb B.nodes.length ncb, .slice fb B.free.length fcb]) sh34 rfl hb_8.row rfl) rfl rfl ?_
    refine RL.ev (.move rfl) rfl rfl ?_
    refine RL.ev (.move rfl) rfl rfl ?_
    refine RL.call rfl ok32 (c_isYesH B nb fb ncb fcb (by omega) r2 (rowSH (k50H l) i) (rowSH (k50H l) i) (List.Perm.refl _) ra rc _ hap1 (List.length_map _) hu2 (by omega) hT2 w32 hB.now o.sl.1) rfl rfl ?_
    rintro _ w34 ⟨rfl, s35⟩
    have S := S.trans s35
    have hb_6 := hb_6.sub s35
    have hb_8 := hb_8.sub s35
    have hA := hA.sub s35
    have hB := hB.sub s35
    have o := o.sub s35
    refine RL.ev (.pick_t rfl rfl) rfl rfl ?_
    refine RL.ev (.assign rfl) rfl rfl ?_
    refine RL.nil (RC.back ?_)
    refine RC.done (rs := [.tmp 4]) (vs := [_]) rfl rfl ⟨rfl, trivial⟩ ?_
    -- end 4
    exact ⟨rfl, S⟩
end Go.Proofs.Ytbfjobmebkhblaa
