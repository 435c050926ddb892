/-
  The reference of the ordered maps: rows, whether a reference is a row's map, which references are maps'.
-/
import Derived.Test.YtekdjjppdijkmaaTreapRight
set_option linter.unusedVariables false
set_option linter.unusedSimpArgs false
namespace Go.Proofs.Ytekdjjppdijkmaa
open Go Go.XL

theorem slDrop {w : World} {a : Option Addr} {sz : Nat} {rows : List (List Value)} (h : Sl w a sz rows) (k : Nat) {c : Nat} (hc : rows.length ≤ c) : Sl w (if c = k then a else a.map (·.add (k * sz))) sz (rows.drop k) := by
  by_cases e : c = k
  · rw [if_pos e, List.drop_eq_nil_of_le (by omega)]; exact Sl.nil _ _ _
  · rw [if_neg e]
    refine ⟨fun hne => ?_, fun i r hr => ?_⟩
    · have := h.some (by intro e2; rw [e2] at hne; simp at hne)
      cases a with
      | none => simp at this
      | some x => rfl
    · rw [List.getElem?_drop] at hr
      have h1 := h.row (k + i) r hr
      have := h.some (by intro e2; rw [e2] at hr; simp at hr)
      cases a with
      | none => simp at this
      | some x =>
        simp only [Option.map_some, Option.getD_some] at h1 ⊢
        rw [add_add, ← Nat.add_mul]
        exact h1
theorem srt_iff {l : List It} : Srt l ↔ ∀ i, i + 1 < l.length → kAt l i < kAt l (i + 1) := by
  have kk : ∀ i (h : i < l.length), kAt l i = l[i].k := fun i h => kAt_get (List.getElem?_eq_getElem h)
  constructor
  · intro h i hi
    rw [kk i (by omega), kk (i + 1) hi]
    exact List.pairwise_iff_getElem.1 h i (i + 1) (by omega) hi (by omega)
  · intro h
    refine List.pairwise_iff_getElem.2 fun i j hi hj hij => ?_
    have key : ∀ d, i + 1 + d < l.length → kAt l i < kAt l (i + 1 + d) := by
      intro d
      induction d with
      | zero => intro hd; exact h i hd
      | succ d ih => intro hd; have h1 := ih (by omega); have h2 := h (i + 1 + d) hd; rw [show i + 1 + d + 1 = i + 1 + (d + 1) by omega] at h2; omega
    have := key (j - i - 1) (by omega)
    rw [show i + 1 + (j - i - 1) = j by omega, kk i hi, kk j hj] at this
    exact this
noncomputable def srtB (l : List It) : Bool := @decide (Srt l) (Classical.propDecidable _)
theorem srtB_iff (l : List It) : srtB l = true ↔ Srt l := by unfold srtB; exact @decide_eq_true_iff _ (Classical.propDecidable _)
theorem srtB_no {l : List It} (h : ¬ Srt l) : srtB l = false := by rw [Bool.eq_false_iff]; exact fun e => h ((srtB_iff l).1 e)
theorem c_ordered (l : List It) (a : Option Addr) (c m : Nat) (hm : m = l.length) (w : World) (hl : Sl w a 2 (l.map It.cells)) (hb : l.length ≤ 1000000000) :
    FC Try.prog 47 [.slice a m c] w (Val (.bool (srtB l)) w) := by
  subst hm
  refine FC.intro Try.func47 rfl Try.ntmps47 rfl ?_
  have S := Sub.refl w
  refine RC.seq ?_
  refine RC.region rfl ?_
  refine RL.ev (.assign rfl) rfl rfl ?_
  refine RL.nil (RC.back ?_)
  refine RC.seq ?_
  refine RC.seq ?_
  refine RC.region rfl ?_
  refine RL.ev (.assign rfl) rfl rfl ?_
  refine RL.nil (RC.back ?_)
  refine RC.block ?_
  refine RC.loop (α := Nat) (fun i => [(0, .slice a l.length c), (3, .int .i64 (i : Int))]) (fun i w1 => (1 ≤ i ∧ (∀ j, j + 1 < i → j + 1 < l.length → kAt l j < kAt l (j + 1))) ∧ Sub w w1) (fun i => l.length + 1 - i) 1 (keep_of (by repeat (first | exact trivial | refine And.intro rfl ?_))) (⟨⟨by omega, fun j h => absurd h (by omega)⟩, S⟩) (fun i w1 hJ => ?_)
  obtain ⟨⟨hi, hp⟩, S⟩ := hJ
  refine RC.seq ?_
  refine RC.seq ?_
  refine RC.region rfl ?_
  refine RL.ev (.move rfl) rfl rfl ?_
  refine RL.ev (.move rfl) rfl rfl ?_
  refine RL.ev (.len sl23 rfl) rfl rfl ?_
  refine RL.ev (.bin rfl rfl rfl) rfl rfl ?_
  refine RL.nil (RC.back ?_)
  refine RC.cond_dec rfl (fun h2 => ?_) (fun h2 => ?_)
  ·
    obtain ⟨x, hx⟩ := getSome (l := l) (i := i - 1) (by omega)
    obtain ⟨y, hy⟩ := getSome (l := l) (i := i) (by omega)
    refine RC.skip (RC.back ?_)
    refine RC.seq ?_
    refine RC.block ?_
    refine RC.seq ?_
    refine RC.draw rfl mxo (by kernel_rfl) ?_
    refine RQ.ev (.move rfl) rfl rfl ?_
    refine RQ.ev (.move rfl) rfl rfl ?_
    refine RQ.ev (.as (.bin rfl rfl rfl) (wi64 (y := ((i - 1 : Nat) : Int)) (by omega) (by omega))) rfl rfl ?_
    refine RQ.ev (.indexS sl23 rfl rfl (by omega) (hl.is (i := 0) (by simp only [List.length_map]; omega))) rfl rfl ?_
    refine RQ.ev (.fieldA fo42_0 rfl) rfl rfl ?_
    refine RQ.ev (.load1 sh2 rfl ((hl.sub S).cell (enc := It.cells) (j := 0) hx rfl)) rfl rfl ?_
    refine RQ.ev (.move rfl) rfl rfl ?_
    refine RQ.ev (.move rfl) rfl rfl ?_
    refine RQ.ev (.indexS sl23 rfl rfl (by omega) (hl.is (i := 0) (by simp only [List.length_map]; omega))) rfl rfl ?_
    refine RQ.ev (.fieldA fo42_0 rfl) rfl rfl ?_
    refine RQ.ev (.load1 sh2 rfl ((hl.sub S).cell (enc := It.cells) (j := 0) hy rfl)) rfl rfl ?_
    refine RQ.ev (.bin rfl rfl rfl) rfl rfl ?_
    refine RQ.nil (fun w3 s4 => RC.back ?_)
    have S := S.trans s4
    refine RC.cond_dec rfl (fun h5 => ?_) (fun h5 => ?_)
    ·
      have hno : srtB l = false := srtB_no (fun h => by have := srt_iff.1 h (i - 1) (by omega); rw [show i - 1 + 1 = i by omega, kAt_get hx, kAt_get hy] at this; omega)
      refine RC.seq ?_
      refine RC.region rfl ?_
      refine RL.ev (.assign rfl) rfl rfl ?_
      refine RL.nil (RC.back ?_)
      refine RC.done (rs := [.tmp 2]) (vs := [_]) rfl rfl ⟨rfl, trivial⟩ ?_
      -- end 1
      rw [hno]
      exact ⟨rfl, S⟩
    ·
      have hxy := h5
      refine RC.skip (RC.back ?_)
      refine RC.region rfl ?_
      refine RL.ev (.move rfl) rfl rfl ?_
      refine RL.ev (.as (.bin rfl rfl rfl) (wi64 (y := ((i + 1 : Nat) : Int)) (by omega) (by omega))) rfl rfl ?_
      refine RL.ev (.assign rfl) rfl rfl ?_
      exact RL.nil (fun a ka => ⟨i + 1, ⟨⟨by omega, fun j h h2 => by rcases Nat.lt_or_ge (j + 1) i with q | q; exact hp j q h2; obtain rfl : i = j + 1 := (by omega); rw [Nat.add_sub_cancel] at hx; rw [kAt_get hx, kAt_get hy]; omega⟩, S⟩, by omega, ka.keep (keep_of (by repeat (first | exact trivial | refine And.intro rfl ?_)))⟩)
  ·
    have hyes : srtB l = true := (srtB_iff l).2 (srt_iff.2 fun j h => hp j (by omega) h)
    refine RC.exit rfl (RC.back ?_)
    refine RC.seq ?_
    refine RC.region rfl ?_
    refine RL.ev (.assign rfl) rfl rfl ?_
    refine RL.nil (RC.back ?_)
    refine RC.done (rs := [.tmp 2]) (vs := [_]) rfl rfl ⟨rfl, trivial⟩ ?_
    -- end 2
    rw [hyes]
    exact ⟨rfl, S⟩

theorem c_refRow (A : Ar) (na fa : Option Addr) (nc fc : Nat) (hn : A.nodes.length ≤ 1000000000) : ∀ (k : Nat) (r most : Int) (w : World), U64 r → most < k → -1000000 ≤ most → most ≤ 1000000 → ArR w na fa A →
    FC Try.prog 24 [arV na fa nc fc A, .int .u64 r, .int .i64 most] w (fun v w' => ∃ a c, v = .slice a ((rowF A k r most).map It.cells).length c ∧ Ows w.heap.size w' 42 2 (.slice a ((rowF A k r most).map It.cells).length c) ((rowF A k r most).map It.cells) ∧ Sub w w') := by
  intro k
  induction k with
  | zero =>
    intro r most w hr hm hm2 hm1 hA
    have hf := atA_form A r
    refine FC.intro Try.func24 rfl Try.ntmps24 rfl ?_
    have S := Sub.refl w
    refine RC.seq ?_
    refine RC.region rfl ?_
    refine RL.box rfl rfl rfl (fun b_3 w_3 e_3 z_3 hb_3 s_3 => ?_)
    have ge_3 := S.le e_3
    have S := S.trans s_3
    have hb_3 : Has w_3 b_3 ([.slice na A.nodes.length nc, .slice fa A.free.length fc]) _ := hb_3
    refine RL.ev (.assign rfl) rfl rfl ?_
    refine RL.nil (RC.back ?_)
    refine RC.seq ?_
    refine RC.region rfl ?_
    refine RL.buildSlice0 sl23 rfl rfl (fun b_10 w_10 e_10 z_10 hb_10 s_10 => ?_)
    have ge_10 := S.le e_10
    have n_3__10 := hb_3.ne e_10
    have S := S.trans s_10
    have hb_3 := hb_3.sub s_10
    refine RL.ev (.assign rfl) rfl rfl ?_
    refine RL.nil (RC.back ?_)
    refine RC.seq ?_
    refine RC.region rfl ?_
    refine RL.ev (.loadR ([.slice na A.nodes.length nc, .slice fa A.free.length fc]) sh28 rfl hb_3.row rfl) rfl rfl ?_
    refine RL.ev (.move rfl) rfl rfl ?_
    refine RL.call rfl ok48 (c_r4At A na fa nc fc r hr w_10 (hA.sub S) hn) rfl rfl ?_
    rintro _ w1 ⟨rfl, s2⟩
    have S := S.trans s2
    have hb_3 := hb_3.sub s2
    have hb_10 := hb_10.sub s2
    refine RL.ev (.assign rfl) rfl rfl ?_
    refine RL.nil (RC.back ?_)
    refine RC.seq ?_
    refine RC.seq ?_
    refine RC.region rfl ?_
    refine RL.ev (.move rfl) rfl rfl ?_
    refine RL.ev (.bin rfl rfl rfl) rfl rfl ?_
    refine RL.ev (.move rfl) rfl rfl ?_
    refine RL.split 16 rfl (fun h3 => ?_) (fun h3 => ?_)
    ·
      refine RL.off rfl rfl ?_
      refine RL.off rfl rfl ?_
      refine RL.ev (.pick_t rfl rfl) rfl rfl ?_
      refine RL.nil (RC.back ?_)
      refine RC.cond_t rfl ?_
      refine RC.seq ?_
      refine RC.region rfl ?_
      refine RL.ev (.move rfl) rfl rfl ?_
      refine RL.ev (.assign rfl) rfl rfl ?_
      refine RL.nil (RC.back ?_)
      refine RC.done (rs := [.tmp 6]) (vs := [_]) rfl rfl ⟨rfl, trivial⟩ ?_
      -- end 1
      exact ⟨some ⟨b_10, 0, none⟩, 0, rfl, Ows.lit0 hb_10 (by omega), S⟩
    ·
      refine RL.ev (.move rfl) rfl rfl ?_
      refine RL.ev (.as (v' := .bool true) (.bin rfl rfl rfl) (congrArg Value.bool (decide_eq_true (by omega)))) rfl rfl ?_
      refine RL.ev (.pick_f rfl rfl) rfl rfl ?_
      refine RL.nil (RC.back ?_)
      refine RC.cond_t rfl ?_
      refine RC.seq ?_
      refine RC.region rfl ?_
      refine RL.ev (.move rfl) rfl rfl ?_
      refine RL.ev (.assign rfl) rfl rfl ?_
      refine RL.nil (RC.back ?_)
      refine RC.done (rs := [.tmp 6]) (vs := [_]) rfl rfl ⟨rfl, trivial⟩ ?_
      -- end 2
      exact ⟨some ⟨b_10, 0, none⟩, 0, rfl, Ows.lit0 hb_10 (by omega), S⟩
  | succ k ih =>
  intro r most w hr hm hm2 hm1 hA
  have hf := atA_form A r
  have hN := hA.nodes
  have hFr := hA.free
  refine FC.intro Try.func24 rfl Try.ntmps24 rfl ?_
  have S := Sub.refl w
  refine RC.seq ?_
  refine RC.region rfl ?_
  refine RL.box rfl rfl rfl (fun b_3 w_3 e_3 z_3 hb_3 s_3 => ?_)
  have ge_3 := S.le e_3
  have S := S.trans s_3
  have hb_3 : Has w_3 b_3 ([.slice na A.nodes.length nc, .slice fa A.free.length fc]) _ := hb_3
  refine RL.ev (.assign rfl) rfl rfl ?_
  refine RL.nil (RC.back ?_)
  refine RC.seq ?_
  refine RC.region rfl ?_
  refine RL.buildSlice0 sl23 rfl rfl (fun b_10 w_10 e_10 z_10 hb_10 s_10 => ?_)
  have ge_10 := S.le e_10
  have n_3__10 := hb_3.ne e_10
  have S := S.trans s_10
  have hb_3 := hb_3.sub s_10
  refine RL.ev (.assign rfl) rfl rfl ?_
  refine RL.nil (RC.back ?_)
  refine RC.seq ?_
  refine RC.region rfl ?_
  refine RL.ev (.loadR ([.slice na A.nodes.length nc, .slice fa A.free.length fc]) sh28 rfl hb_3.row rfl) rfl rfl ?_
  refine RL.ev (.move rfl) rfl rfl ?_
  refine RL.call rfl ok48 (c_r4At A na fa nc fc r hr w_10 (hA.sub S) hn) rfl rfl ?_
  rintro _ w1 ⟨rfl, s2⟩
  have S := S.trans s2
  have hb_3 := hb_3.sub s2
  have hb_10 := hb_10.sub s2
  refine RL.ev (.assign rfl) rfl rfl ?_
  refine RL.nil (RC.back ?_)
  refine RC.seq ?_
  refine RC.seq ?_
  refine RC.region rfl ?_
  refine RL.ev (.move rfl) rfl rfl ?_
  refine RL.ev (.bin rfl rfl rfl) rfl rfl ?_
  refine RL.ev (.move rfl) rfl rfl ?_
  refine RL.split 16 rfl (fun h3 => ?_) (fun h3 => ?_)
  ·
    have hno := hf.1 h3
    refine RL.off rfl rfl ?_
    refine RL.off rfl rfl ?_
    refine RL.ev (.pick_t rfl rfl) rfl rfl ?_
    refine RL.nil (RC.back ?_)
    refine RC.cond_t rfl ?_
    refine RC.seq ?_
    refine RC.region rfl ?_
    refine RL.ev (.move rfl) rfl rfl ?_
    refine RL.ev (.assign rfl) rfl rfl ?_
    refine RL.nil (RC.back ?_)
    refine RC.done (rs := [.tmp 6]) (vs := [_]) rfl rfl ⟨rfl, trivial⟩ ?_
    -- end 1
    rw [rowF_no (.inl hno)]
    exact ⟨some ⟨b_10, 0, none⟩, 0, rfl, Ows.lit0 hb_10 (by omega), S⟩
  ·
    obtain ⟨x, hx, hax⟩ := hf.2 h3
    refine RL.ev (.move rfl) rfl rfl ?_
    refine RL.ev (.bin rfl rfl rfl) rfl rfl ?_
    refine RL.ev (.pick_f rfl rfl) rfl rfl ?_
    refine RL.nil (RC.back ?_)
    refine RC.cond_dec rfl (fun h4 => ?_) (fun h4 => ?_)
    ·
      have hmo := h4
      refine RC.seq ?_
      refine RC.region rfl ?_
      refine RL.ev (.move rfl) rfl rfl ?_
      refine RL.ev (.assign rfl) rfl rfl ?_
      refine RL.nil (RC.back ?_)
      refine RC.done (rs := [.tmp 6]) (vs := [_]) rfl rfl ⟨rfl, trivial⟩ ?_
      -- end 2
      rw [rowF_no (.inr hmo)]
      exact ⟨some ⟨b_10, 0, none⟩, 0, rfl, Ows.lit0 hb_10 (by omega), S⟩
    ·
      have hmo := h4
      have hrng := getA_rng hx
      have hxo := hA.nok x (getA_nok hx)
      refine RC.skip (RC.back ?_)
      refine RC.seq ?_
      refine RC.region rfl ?_
      refine RL.ev (.field0 fo28_0 rfl) rfl rfl ?_
      refine RL.ev (.load1 sh25 rfl (hb_3.cell rfl)) rfl rfl ?_
      refine RL.ev (.as (v' := .int .i64 (placeR r)) (.move rfl) (by rw [hax])) rfl rfl ?_
      refine RL.ev (.indexS sl25 rfl rfl (by omega) (hN.is (i := 0) (by simp only [List.length_map]; omega))) rfl rfl ?_
      refine RL.ev (.loadR (x.cells) sh78 rfl ((hN.sub S).rowAt (enc := Node.cells) (getA_get hx).1) rfl) rfl rfl ?_
      refine RL.alloc ze78 rfl rfl (fun b_9 w_9 e_9 z_9 hb_9 s_9 => ?_)
      have ge_9 := S.le e_9
      have n_3__9 := hb_3.ne e_9
      have n_10__9 := hb_10.ne e_9
      have S := S.trans s_9
      have hb_3 := hb_3.sub s_9
      have hb_10 := hb_10.sub s_9
      refine RL.store sh78 rfl rfl rfl hb_9 (by exact Nat.le_of_ble_eq_true rfl) (by rfl) rfl (fun w5 z5 hb_9 a5 => ?_)
      have S := S.upd a5 ge_9
      have hb_3 := hb_3.upd a5 n_3__9
      have hb_10 := hb_10.upd a5 n_10__9
      have hb_9 : Has w5 b_9 (x.cells) _ := hb_9.now (by kernel_rfl)
      refine RL.nil (RC.back ?_)
      refine RC.seq ?_
      refine RC.region rfl ?_
      refine RL.ev (.move rfl) rfl rfl ?_
      refine RL.ev (.loadR ([.slice na A.nodes.length nc, .slice fa A.free.length fc]) sh28 rfl hb_3.row rfl) rfl rfl ?_
      refine RL.ev (.field0 fo78_5 rfl) rfl rfl ?_
      refine RL.ev (.indexArr ar76 rfl rfl (by omega)) rfl rfl ?_
      refine RL.ev (.load1 sh30 rfl (hb_9.cell rfl)) rfl rfl ?_
      refine RL.ev (.move rfl) rfl rfl ?_
      refine RL.ev (.as (.bin rfl rfl rfl) (wi64 (y := most - 1) (by rfl) (by omega))) rfl rfl ?_
      refine RL.call rfl ok24 (ih x.k0 (most - 1) w5 (hxo.kids _ (by simp [Node.kids])) (by omega) (by omega) (by omega) (hA.sub S)) rfl rfl ?_
      rintro vr w6 ⟨a1, c1, hvr, o1, s7⟩
      have S := S.trans s7
      have hb_3 := hb_3.sub s7
      have hb_10 := hb_10.sub s7
      have hb_9 := hb_9.sub s7
      obtain ⟨L, hL⟩ : ∃ L, rowF A k x.k0 (most - 1) = L := ⟨_, rfl⟩
      have hLl := rowF_len A k x.k0 (most - 1) (by omega)
      rw [hL] at hvr o1 hLl
      subst hvr
      have sz_34 := S.size
      have ltb_3_34 := hb_3.lt
      have ltb_10_34 := hb_10.lt
      have ltb_9_34 := hb_9.lt
      refine RL.append2 (base := w.heap.size) (rows := []) (news := L.map It.cells) sl23 ze42 rfl rfl rfl rfl (.inl (Ows.lit0 hb_10 (by omega))) o1.sl.1 (by simp only [List.length_map]) (by intro r hr; obtain ⟨x, _, rfl⟩ := List.mem_map.1 hr; rfl) (by rw [List.all_eq_true]; intro r hr; obtain ⟨x, _, rfl⟩ := List.mem_map.1 hr; rfl) (by (try simp only [List.length_map, List.length_nil, List.length_append, List.length_cons]); omega) (by (try simp only [List.length_map, List.length_nil, List.length_append, List.length_cons]); omega) (by omega) rfl rfl (fun v_34 w_34 hc_34 ho_34 ag_34 ob_34 => ?_)
      have o34 := ho_34 (.inr (Ows.lit0 hb_10 (by omega)))
      have d_o34_b_3 := obNe ob_34 (fun k hk e => n_3__10.symm ((obLit hk).trans e)) hb_3.lt
      have d_o34_b_9 := obNe ob_34 (fun k hk e => n_10__9 ((obLit hk).trans e)) hb_9.lt
      have S := S.agrN ag_34 (fun k e => Nat.le_trans (by omega) e.2)
      have hb_3 := hb_3.step ag_34 (fun e => n_3__10.symm (obLit e.1))
      have hb_9 := hb_9.step ag_34 (fun e => n_10__9 (obLit e.1))
      obtain ⟨a_34, c_34, rfl, k_34⟩ := o34.form
      refine RL.ev (.assign rfl) rfl rfl ?_
      refine RL.nil (RC.back ?_)
      refine RC.seq ?_
      refine RC.region rfl ?_
      refine RL.ev (.move rfl) rfl rfl ?_
      refine RL.ev (.field0 fo78_2 rfl) rfl rfl ?_
      refine RL.ev (.load1 sh2 rfl (hb_9.cell rfl)) rfl rfl ?_
      refine RL.ev (.field0 fo78_3 rfl) rfl rfl ?_
      refine RL.ev (.load1 sh2 rfl (hb_9.cell rfl)) rfl rfl ?_
      refine RL.ev (.buildS ze42 pl42 rfl rfl) rfl rfl ?_
      refine RL.buildSlice1 sl23 _ ze42 rfl rfl rfl rfl rfl rfl rfl (fun b_41 w_41 e_41 z_41 hb_41 s_41 => ?_)
      have ge_41 := S.le e_41
      have n_3__41 := hb_3.ne e_41
      have n_9__41 := hb_9.ne e_41
      have d_o34_b_41 := o34.neNew e_41
      have S := S.trans s_41
      have hb_3 := hb_3.sub s_41
      have hb_9 := hb_9.sub s_41
      have o34 := o34.sub s_41
      have sz_42 := S.size
      have ltb_3_42 := hb_3.lt
      have ltb_9_42 := hb_9.lt
      have ltb_41_42 := hb_41.lt
      refine RL.append2 (base := w.heap.size) (rows := L.map It.cells) (news := [_]) sl23 ze42 rfl rfl rfl rfl (.inl o34) (Has.slOne hb_41) rfl (by intro r hr; rw [List.mem_singleton] at hr; subst hr; rfl) rfl (by (try simp only [List.length_map, List.length_nil, List.length_append, List.length_cons]); omega) (by (try simp only [List.length_map, List.length_nil, List.length_append, List.length_cons]); omega) (by omega) rfl rfl (fun v_42 w_42 hc_42 ho_42 ag_42 ob_42 => ?_)
      have o42 := ho_42 (.inl (by simp))
      rw [show _ ++ [_] = ((L ++ [(⟨x.n, x.v⟩ : It)]).map It.cells) from by rw [List.map_append]; rfl] at o42
      have d_o42_b_3 := obNe ob_42 d_o34_b_3 hb_3.lt
      have d_o42_b_9 := obNe ob_42 d_o34_b_9 hb_9.lt
      have S := S.agrN ag_42 (fun k e => Nat.le_trans (by omega) e.2)
      have hb_3 := hb_3.step ag_42 (fun e => d_o34_b_3 _ e.1 rfl)
      have hb_9 := hb_9.step ag_42 (fun e => d_o34_b_9 _ e.1 rfl)
      obtain ⟨a_42, c_42, rfl, k_42⟩ := o42.form
      refine RL.ev (.assign rfl) rfl rfl ?_
      refine RL.nil (RC.back ?_)
      refine RC.seq ?_
      refine RC.region rfl ?_
      refine RL.ev (.move rfl) rfl rfl ?_
      refine RL.ev (.loadR ([.slice na A.nodes.length nc, .slice fa A.free.length fc]) sh28 rfl hb_3.row rfl) rfl rfl ?_
      refine RL.ev (.field0 fo78_5 rfl) rfl rfl ?_
      refine RL.ev (.indexArr ar76 rfl rfl (by omega)) rfl rfl ?_
      refine RL.ev (.load1 sh30 rfl (hb_9.cell rfl)) rfl rfl ?_
      refine RL.ev (.move rfl) rfl rfl ?_
      refine RL.ev (.move rfl) rfl rfl ?_
      refine RL.ev (.len sl23 rfl) rfl rfl ?_
      refine RL.ev (.as (.bin rfl rfl rfl) (wi64 (y := most - ((L.length : Int) + 1)) (by simp only [List.length_map, List.length_append, List.length_singleton]; omega) (by omega))) rfl rfl ?_
      refine RL.call rfl ok24 (ih x.k1 (most - ((L.length : Int) + 1)) w_42 (hxo.kids _ (by simp [Node.kids])) (by omega) (by omega) (by omega) (hA.sub S)) rfl rfl ?_
      rintro vr2 w8 ⟨a2, c2, hvr2, o2, s9⟩
      have S := S.trans s9
      have hb_3 := hb_3.sub s9
      have hb_9 := hb_9.sub s9
      have o42 := o42.sub s9
      obtain ⟨R, hR⟩ : ∃ R, rowF A k x.k1 (most - ((L.length : Int) + 1)) = R := ⟨_, rfl⟩
      have hRl := rowF_len A k x.k1 (most - ((L.length : Int) + 1)) (by omega)
      rw [hR] at hvr2 o2 hRl
      subst hvr2
      have sz_53 := S.size
      have ltb_3_53 := hb_3.lt
      have ltb_9_53 := hb_9.lt
      refine RL.append2 (base := w.heap.size) (rows := (L ++ [(⟨x.n, x.v⟩ : It)]).map It.cells) (news := R.map It.cells) sl23 ze42 rfl rfl rfl rfl (.inl o42) o2.sl.1 (by simp only [List.length_map]) (by intro r hr; obtain ⟨x, _, rfl⟩ := List.mem_map.1 hr; rfl) (by rw [List.all_eq_true]; intro r hr; obtain ⟨x, _, rfl⟩ := List.mem_map.1 hr; rfl) (by (try simp only [List.length_map, List.length_nil, List.length_append, List.length_cons]); omega) (by (try simp only [List.length_map, List.length_nil, List.length_append, List.length_cons]); omega) (by omega) rfl rfl (fun v_53 w_53 hc_53 ho_53 ag_53 ob_53 => ?_)
      have o53 := ho_53 (.inr o42)
      have d_o53_b_3 := obNe ob_53 d_o42_b_3 hb_3.lt
      have d_o53_b_9 := obNe ob_53 d_o42_b_9 hb_9.lt
      have S := S.agrN ag_53 (fun k e => Nat.le_trans (by omega) e.2)
      have hb_3 := hb_3.step ag_53 (fun e => d_o42_b_3 _ e.1 rfl)
      have hb_9 := hb_9.step ag_53 (fun e => d_o42_b_9 _ e.1 rfl)
      obtain ⟨a_53, c_53, rfl, k_53⟩ := o53.form
      refine RL.ev (.assign rfl) rfl rfl ?_
      refine RL.nil (RC.back ?_)
      refine RC.seq ?_
      refine RC.region rfl ?_
      refine RL.ev (.move rfl) rfl rfl ?_
      refine RL.ev (.assign rfl) rfl rfl ?_
      refine RL.nil (RC.back ?_)
      refine RC.done (rs := [.tmp 6]) (vs := [_]) rfl rfl ⟨rfl, trivial⟩ ?_
      -- end 3
      have e := rowF_yes (k := k) hx hmo
      rw [hL, hR] at e
      rw [e, show (L ++ (⟨x.n, x.v⟩ : It) :: R).map It.cells = (L ++ [(⟨x.n, x.v⟩ : It)]).map It.cells ++ R.map It.cells from by simp]
      exact ⟨_, _, rfl, o53, S⟩

theorem slTakeM {α : Type} {w : World} {a : Option Addr} {sz : Nat} {f : α → List Value} {l : List α} (h : Sl w a sz (l.map f)) (k : Nat) : Sl w a sz ((l.take k).map f) := by rw [List.map_take]; exact h.take k
theorem slDropM {α : Type} {w : World} {a : Option Addr} {sz : Nat} {f : α → List Value} {l : List α} (h : Sl w a sz (l.map f)) (k : Nat) {c : Nat} (hc : l.length ≤ c) : Sl w (if c = k then a else a.map (·.add (k * sz))) sz ((l.drop k).map f) := by rw [List.map_drop]; exact slDrop h k (by rw [List.length_map]; exact hc)
set_option maxHeartbeats 2000000 in
theorem c_refIs (A : Ar) (na fa : Option Addr) (nc fc : Nat) (hn : A.nodes.length ≤ 1000000000) : ∀ (k : Nat) (r : Int) (l : List It) (a : Option Addr) (c m : Nat) (w : World), m = l.length → l.length ≤ c → U64 r → l.length < k → l.length ≤ 1000000 → ArR w na fa A → Sl w a 2 (l.map It.cells) →
    FC Try.prog 29 [arV na fa nc fc A, .int .u64 r, .slice a m c] w (Val (.bool (isF A k r l)) w) := by
  intro k
  induction k with
  | zero => intro r l a c m w _ _ _ h; omega
  | succ k ih =>
  intro r l a c m w hm hc hr hk hb hA hl
  subst hm
  have hf := atA_form A r
  have hN := hA.nodes
  have hFr := hA.free
  refine FC.intro Try.func29 rfl Try.ntmps29 rfl ?_
  have S := Sub.refl w
  refine RC.seq ?_
  refine RC.region rfl ?_
  refine RL.box rfl rfl rfl (fun b_3 w_3 e_3 z_3 hb_3 s_3 => ?_)
  have ge_3 := S.le e_3
  have S := S.trans s_3
  have hb_3 : Has w_3 b_3 ([.slice na A.nodes.length nc, .slice fa A.free.length fc]) _ := hb_3
  refine RL.ev (.assign rfl) rfl rfl ?_
  refine RL.nil (RC.back ?_)
  refine RC.seq ?_
  refine RC.region rfl ?_
  refine RL.ev (.move rfl) rfl rfl ?_
  refine RL.call rfl ok54 (c_top l a c l.length rfl w_3 (hl.sub S) (by omega)) rfl rfl ?_
  rintro _ w1 ⟨rfl, s2⟩
  have S := S.trans s2
  have hb_3 := hb_3.sub s2
  refine RL.ev (.assign rfl) rfl rfl ?_
  refine RL.nil (RC.back ?_)
  refine RC.seq ?_
  refine RC.seq ?_
  refine RC.region rfl ?_
  refine RL.ev (.move rfl) rfl rfl ?_
  refine RL.ev (.bin rfl rfl rfl) rfl rfl ?_
  refine RL.nil (RC.back ?_)
  refine RC.cond_dec rfl (fun h3 => ?_) (fun h3 => ?_)
  ·
    obtain rfl := topL_neg h3
    refine RC.seq ?_
    refine RC.region rfl ?_
    refine RL.ev (.move rfl) rfl rfl ?_
    refine RL.ev (.bin rfl rfl rfl) rfl rfl ?_
    refine RL.ev (.assign rfl) rfl rfl ?_
    refine RL.nil (RC.back ?_)
    refine RC.done (rs := [.tmp 6]) (vs := [_]) rfl rfl ⟨rfl, trivial⟩ ?_
    -- end 1
    exact ⟨rfl, S⟩
  ·
    have ht := h3
    have hlp : 0 < l.length := (by rcases Nat.eq_zero_or_pos l.length with e | e; (rw [List.eq_nil_of_length_eq_zero e] at ht; exact absurd (show topL [] < 0 by decide) ht); exact e)
    have htr := topL_rng hlp
    obtain ⟨it, hit⟩ := getSome (l := l) (i := (topL l).toNat) (by omega)
    have hgd : l.getD (topL l).toNat it0 = it := (by rw [List.getD_eq_getElem?_getD, hit]; rfl)
    refine RC.skip (RC.back ?_)
    refine RC.seq ?_
    refine RC.region rfl ?_
    refine RL.ev (.loadR ([.slice na A.nodes.length nc, .slice fa A.free.length fc]) sh28 rfl hb_3.row rfl) rfl rfl ?_
    refine RL.ev (.move rfl) rfl rfl ?_
    refine RL.call rfl ok48 (c_r4At A na fa nc fc r hr w1 (hA.sub S) hn) rfl rfl ?_
    rintro _ w4 ⟨rfl, s5⟩
    have S := S.trans s5
    have hb_3 := hb_3.sub s5
    refine RL.ev (.assign rfl) rfl rfl ?_
    refine RL.nil (RC.back ?_)
    refine RC.seq ?_
    refine RC.seq ?_
    refine RC.region rfl ?_
    refine RL.ev (.move rfl) rfl rfl ?_
    refine RL.ev (.bin rfl rfl rfl) rfl rfl ?_
    refine RL.nil (RC.back ?_)
    refine RC.cond_dec rfl (fun h6 => ?_) (fun h6 => ?_)
    ·
      have hno := hf.1 h6
      refine RC.seq ?_
      refine RC.region rfl ?_
      refine RL.ev (.assign rfl) rfl rfl ?_
      refine RL.nil (RC.back ?_)
      refine RC.done (rs := [.tmp 6]) (vs := [_]) rfl rfl ⟨rfl, trivial⟩ ?_
      -- end 2
      rw [isF_no ht hno]
      exact ⟨rfl, S⟩
    ·
      obtain ⟨x, hx, hax⟩ := hf.2 h6
      have hrng := getA_rng hx
      have hxo := hA.nok x (getA_nok hx)
      refine RC.skip (RC.back ?_)
      refine RC.seq ?_
      refine RC.region rfl ?_
      refine RL.ev (.field0 fo28_0 rfl) rfl rfl ?_
      refine RL.ev (.load1 sh25 rfl (hb_3.cell rfl)) rfl rfl ?_
      refine RL.ev (.as (v' := .int .i64 (placeR r)) (.move rfl) (by rw [hax])) rfl rfl ?_
      refine RL.ev (.indexS sl25 rfl rfl (by omega) (hN.is (i := 0) (by simp only [List.length_map]; omega))) rfl rfl ?_
      refine RL.ev (.loadR (x.cells) sh78 rfl ((hN.sub S).rowAt (enc := Node.cells) (getA_get hx).1) rfl) rfl rfl ?_
      refine RL.alloc ze78 rfl rfl (fun b_9 w_9 e_9 z_9 hb_9 s_9 => ?_)
      have ge_9 := S.le e_9
      have n_3__9 := hb_3.ne e_9
      have S := S.trans s_9
      have hb_3 := hb_3.sub s_9
      refine RL.store sh78 rfl rfl rfl hb_9 (by exact Nat.le_of_ble_eq_true rfl) (by rfl) rfl (fun w7 z7 hb_9 a7 => ?_)
      have S := S.upd a7 ge_9
      have hb_3 := hb_3.upd a7 n_3__9
      have hb_9 : Has w7 b_9 (x.cells) _ := hb_9.now (by kernel_rfl)
      refine RL.nil (RC.back ?_)
      refine RC.seq ?_
      refine RC.drawD (fun k => False) [16] w7.heap.size 17 rfl rfl mxo (fun w8 s9 => ?_)
      have hNN : ∀ k, ((False) ∨ w7.heap.size ≤ k) → w.heap.size ≤ k := fun k e => e.elim (fun e => e.elim) (fun e => Nat.le_trans S.size e)
      have ent_S := S.size
      have hN0 : ∀ k, w7.heap.size ≤ k → w.heap.size ≤ k := fun k e => Nat.le_trans S.size e
      have ltD_b_3 := hb_3.lt
      have ltD_b_9 := hb_9.lt
      have szD := Nat.le_refl w7.heap.size
      have S := S.trans s9
      have hb_3 := hb_3.sub s9
      have hb_9 := hb_9.sub s9
      have szD := Nat.le_trans szD s9.size
      refine RD.take 0 rfl (by kernel_rfl) (by kernel_rfl) (by kernel_rfl) (fun w' s' => .field0 fo78_1 rfl) rfl rfl ?_
      refine RD.take 1 rfl (by kernel_rfl) (by kernel_rfl) (by kernel_rfl) (fun w' s' => .load1 sh3 rfl ((hb_9.step s' (fun e => e.elim (fun e => e.elim) (fun e => Nat.not_le.2 ltD_b_9 e))).cell rfl)) rfl rfl ?_
      refine RD.take 2 rfl (by kernel_rfl) (by kernel_rfl) (by kernel_rfl) (fun w' s' => .move rfl) rfl rfl ?_
      refine RD.take 3 rfl (by kernel_rfl) (by kernel_rfl) (by kernel_rfl) (fun w' s' => .move rfl) rfl rfl ?_
      refine RD.take 4 rfl (by kernel_rfl) (by kernel_rfl) (by kernel_rfl) (fun w' s' => .indexS sl23 rfl rfl (by omega) (hl.is (i := 0) (by simp only [List.length_map]; omega))) rfl rfl ?_
      refine RD.take 5 rfl (by kernel_rfl) (by kernel_rfl) (by kernel_rfl) (fun w' s' => .fieldA fo42_0 rfl) rfl rfl ?_
      refine RD.take 6 rfl (by kernel_rfl) (by kernel_rfl) (by kernel_rfl) (fun w' s' => .load1 sh2 rfl ((hl.sub (S.agrN s' hNN)).cell (enc := It.cells) (j := 0) hit rfl)) rfl rfl ?_
      refine RD.take 7 rfl (by kernel_rfl) (by kernel_rfl) (by kernel_rfl) (fun w' s' => .move rfl) rfl rfl ?_
      refine RD.take 8 rfl (by kernel_rfl) (by kernel_rfl) (by kernel_rfl) (fun w' s' => .move rfl) rfl rfl ?_
      refine RD.take 9 rfl (by kernel_rfl) (by kernel_rfl) (by kernel_rfl) (fun w' s' => .indexS sl23 rfl rfl (by omega) (hl.is (i := 0) (by simp only [List.length_map]; omega))) rfl rfl ?_
      refine RD.take 10 rfl (by kernel_rfl) (by kernel_rfl) (by kernel_rfl) (fun w' s' => .fieldA fo42_1 rfl) rfl rfl ?_
      refine RD.take 11 rfl (by kernel_rfl) (by kernel_rfl) (by kernel_rfl) (fun w' s' => .load1 sh2 rfl ((hl.sub (S.agrN s' hNN)).cell (enc := It.cells) (j := 1) hit rfl)) rfl rfl ?_
      refine RD.take 12 rfl (by kernel_rfl) (by kernel_rfl) (by kernel_rfl) (fun w' s' => .move rfl) rfl rfl ?_
      refine RD.take 13 rfl (by kernel_rfl) (by kernel_rfl) (by kernel_rfl) (fun w' s' => .len sl23 rfl) rfl rfl ?_
      refine RD.take 14 rfl (by kernel_rfl) (by kernel_rfl) (by kernel_rfl) (fun w' s' => .buildS ze78 pl78 rfl rfl) rfl rfl ?_
      refine RD.all [15] (by kernel_rfl) rfl (RDs.cons rfl ?_ (RDs.nil))
      refine RL.alloc ze78 rfl rfl (fun b_10 w_10 e_10 z_10 hb_10 s_10 => ?_)
      have fr_b_10 : w7.heap.size ≤ b_10 := by rw [e_10]; exact szD
      have ge_10 := S.le e_10
      have n_3__10 := hb_3.ne e_10
      have n_9__10 := hb_9.ne e_10
      have S := S.trans s_10
      have hb_3 := hb_3.sub s_10
      have hb_9 := hb_9.sub s_10
      have szD := Nat.le_trans szD s_10.size
      refine RD.back s_10.agr ?_
      refine RD.all [16] (by kernel_rfl) rfl (RDs.cons rfl ?_ (RDs.nil))
      refine RL.store sh78 rfl rfl rfl hb_10 (by exact Nat.le_of_ble_eq_true rfl) (by rfl) rfl (fun w10 z10 hb_10 a10 => ?_)
      have S := S.upd a10 ge_10
      have hb_3 := hb_3.upd a10 n_3__10
      have hb_9 := hb_9.upd a10 n_9__10
      have szD := Nat.le_trans szD a10.size
      have hb_10 : Has w10 b_10 ((tNode x.gen it.k it.v l.length 0 0).cells) _ := hb_10.now (by kernel_rfl)
      refine RD.backW rfl (a10.mono fun k _ e => e ▸ (.inr fr_b_10)) ?_
      refine RD.done (by kernel_rfl) (RC.back ?_)
      refine RC.seq ?_
      refine RC.region rfl ?_
      refine RL.ev (.field0 fo78_5 rfl) rfl rfl ?_
      refine RL.ev (.indexArr ar76 rfl rfl (by omega)) rfl rfl ?_
      refine RL.ev (.load1 sh30 rfl (hb_9.cell rfl)) rfl rfl ?_
      refine RL.ev (.field0 fo78_5 rfl) rfl rfl ?_
      refine RL.ev (.indexArr ar76 rfl rfl (by omega)) rfl rfl ?_
      refine RL.store sh30 rfl rfl rfl hb_10 (by exact Nat.le_of_ble_eq_true rfl) (by rfl) rfl (fun w11 z11 hb_10 a11 => ?_)
      have S := S.upd a11 ge_10
      have hb_3 := hb_3.upd a11 n_3__10
      have hb_9 := hb_9.upd a11 n_9__10
      have hb_10 : Has w11 b_10 (tNode x.gen it.k it.v l.length x.k0 0).cells 78 := hb_10
      refine RL.nil (RC.back ?_)
      refine RC.seq ?_
      refine RC.region rfl ?_
      refine RL.ev (.field0 fo78_5 rfl) rfl rfl ?_
      refine RL.ev (.indexArr ar76 rfl rfl (by omega)) rfl rfl ?_
      refine RL.ev (.load1 sh30 rfl (hb_9.cell rfl)) rfl rfl ?_
      refine RL.ev (.field0 fo78_5 rfl) rfl rfl ?_
      refine RL.ev (.indexArr ar76 rfl rfl (by omega)) rfl rfl ?_
      refine RL.store sh30 rfl rfl rfl hb_10 (by exact Nat.le_of_ble_eq_true rfl) (by rfl) rfl (fun w12 z12 hb_10 a12 => ?_)
      have S := S.upd a12 ge_10
      have hb_3 := hb_3.upd a12 n_3__10
      have hb_9 := hb_9.upd a12 n_9__10
      have hb_10 : Has w12 b_10 (tNode x.gen it.k it.v l.length x.k0 x.k1).cells 78 := hb_10
      refine RL.nil (RC.back ?_)
      refine RC.seq ?_
      refine RC.draw rfl mxo (by kernel_rfl) ?_
      refine RQ.ev (.loadR (x.cells) sh78 rfl hb_9.row rfl) rfl rfl ?_
      refine RQ.ev (.loadR ((tNode x.gen it.k it.v l.length x.k0 x.k1).cells) sh78 rfl hb_10.row rfl) rfl rfl ?_
      refine RQ.ev (.as (v' := .bool (decide (x = tNode x.gen it.k it.v l.length x.k0 x.k1))) (.eqS (xs := x.cells) (ys := (tNode x.gen it.k it.v l.length x.k0 x.k1).cells) fk78 eg78 sh78 rfl rfl rfl rfl rfl) (by rw [eqL_cells])) rfl rfl ?_
      refine RQ.ev (.move rfl) rfl rfl ?_
      refine RQ.splitB 55 rfl (fun h13 => ?_) (fun h13 => ?_)
      ·
        have q1 := h13
        refine RQ.ev (.loadR ([.slice na A.nodes.length nc, .slice fa A.free.length fc]) sh28 rfl hb_3.row rfl) rfl rfl ?_
        refine RQ.ev (.field0 fo78_5 rfl) rfl rfl ?_
        refine RQ.ev (.indexArr ar76 rfl rfl (by omega)) rfl rfl ?_
        refine RQ.ev (.load1 sh30 rfl (hb_9.cell rfl)) rfl rfl ?_
        refine RQ.ev (.move rfl) rfl rfl ?_
        refine RQ.ev (.move rfl) rfl rfl ?_
        refine RQ.ev (.sliceHi sl23 rfl rfl (by omega)) rfl rfl ?_
        refine RQ.call rfl ok29 (fun w' s' => ih x.k0 (l.take (topL l).toNat) a c (topL l).toNat w' (by rw [List.length_take]; omega) (by rw [List.length_take]; omega) (hxo.kids _ (by simp [Node.kids])) (by rw [List.length_take]; omega) (by rw [List.length_take]; omega) (hA.sub (S.trans s')) (slTakeM (hl.sub (S.trans s')) _)) rfl rfl ?_
        refine RQ.ev (.pick_t rfl rfl) rfl rfl ?_
        refine RQ.ev (.move rfl) rfl rfl ?_
        refine RQ.splitB 65 rfl (fun h14 => ?_) (fun h14 => ?_)
        ·
          have q2 := h14
          refine RQ.ev (.loadR ([.slice na A.nodes.length nc, .slice fa A.free.length fc]) sh28 rfl hb_3.row rfl) rfl rfl ?_
          refine RQ.ev (.field0 fo78_5 rfl) rfl rfl ?_
          refine RQ.ev (.indexArr ar76 rfl rfl (by omega)) rfl rfl ?_
          refine RQ.ev (.load1 sh30 rfl (hb_9.cell rfl)) rfl rfl ?_
          refine RQ.ev (.move rfl) rfl rfl ?_
          refine RQ.ev (.move rfl) rfl rfl ?_
          refine RQ.ev (.as (.bin rfl rfl rfl) (wi64 (y := (((topL l).toNat + 1 : Nat) : Int)) (by omega) (by omega))) rfl rfl ?_
          refine RQ.ev (.sliceLo sl23 rfl rfl (by omega)) rfl rfl ?_
          refine RQ.call rfl ok29 (fun w' s' => ih x.k1 (l.drop ((topL l).toNat + 1)) _ _ _ w' (by rw [List.length_drop]; rfl) (by rw [List.length_drop]; show _ ≤ c - ((topL l).toNat + 1); omega) (hxo.kids _ (by simp [Node.kids])) (by rw [List.length_drop]; omega) (by rw [List.length_drop]; omega) (hA.sub (S.trans s')) (slDropM (hl.sub (S.trans s')) ((topL l).toNat + 1) hc)) rfl rfl ?_
          refine RQ.ev (.pick_t rfl rfl) rfl rfl ?_
          refine RQ.ev (.assign rfl) rfl rfl ?_
          refine RQ.nil (fun w15 s16 => RC.back ?_)
          have S := S.trans s16
          have hb_3 := hb_3.sub s16
          have hb_9 := hb_9.sub s16
          have hb_10 := hb_10.sub s16
          refine RC.done (rs := [.tmp 6]) (vs := [_]) rfl rfl ⟨rfl, trivial⟩ ?_
          -- end 3
          rw [isF_yes ht hx, hgd]
          (try rw [q1])
          (try rw [q2])
          exact ⟨rfl, S⟩
        ·
          have q2 := h14
          refine RQ.off rfl rfl ?_
          refine RQ.off rfl rfl ?_
          refine RQ.off rfl rfl ?_
          refine RQ.off rfl rfl ?_
          refine RQ.off rfl rfl ?_
          refine RQ.off rfl rfl ?_
          refine RQ.off rfl rfl ?_
          refine RQ.off rfl rfl ?_
          refine RQ.off rfl rfl ?_
          refine RQ.ev (.pick_f rfl rfl) rfl rfl ?_
          refine RQ.ev (.assign rfl) rfl rfl ?_
          refine RQ.nil (fun w17 s18 => RC.back ?_)
          have S := S.trans s18
          have hb_3 := hb_3.sub s18
          have hb_9 := hb_9.sub s18
          have hb_10 := hb_10.sub s18
          refine RC.done (rs := [.tmp 6]) (vs := [_]) rfl rfl ⟨rfl, trivial⟩ ?_
          -- end 4
          rw [isF_yes ht hx, hgd]
          (try rw [q1])
          (try rw [q2])
          exact ⟨rfl, S⟩
      ·
        have q1 := h13
        refine RQ.off rfl rfl ?_
        refine RQ.off rfl rfl ?_
        refine RQ.off rfl rfl ?_
        refine RQ.off rfl rfl ?_
        refine RQ.off rfl rfl ?_
        refine RQ.off rfl rfl ?_
        refine RQ.off rfl rfl ?_
        refine RQ.off rfl rfl ?_
        refine RQ.ev (.pick_f rfl rfl) rfl rfl ?_
        refine RQ.ev (.move rfl) rfl rfl ?_
        refine RQ.off rfl rfl ?_
        refine RQ.off rfl rfl ?_
        refine RQ.off rfl rfl ?_
        refine RQ.off rfl rfl ?_
        refine RQ.off rfl rfl ?_
        refine RQ.off rfl rfl ?_
        refine RQ.off rfl rfl ?_
        refine RQ.off rfl rfl ?_
        refine RQ.off rfl rfl ?_
        refine RQ.ev (.pick_f rfl rfl) rfl rfl ?_
        refine RQ.ev (.assign rfl) rfl rfl ?_
        refine RQ.nil (fun w19 s20 => RC.back ?_)
        have S := S.trans s20
        have hb_3 := hb_3.sub s20
        have hb_9 := hb_9.sub s20
        have hb_10 := hb_10.sub s20
        refine RC.done (rs := [.tmp 6]) (vs := [_]) rfl rfl ⟨rfl, trivial⟩ ?_
        -- end 5
        rw [isF_yes ht hx, hgd]
        (try rw [q1])
        (try rw [q2])
        exact ⟨rfl, S⟩

noncomputable def refRightB (A : Ar) (r : Int) : Bool := isMapB A r
theorem c_refRight6 (A : Ar) (na fa : Option Addr) (nc fc : Nat) (hn : A.nodes.length ≤ 1000000000) (r : Int) (hr : U64 r) (w : World) (hA : ArR w na fa A) :
    FC Try.prog 23 [arV na fa nc fc A, .int .u64 r] w (Val (.bool (isMapB A r)) w) := by
  have hN := hA.nodes
  have hFr := hA.free
  have hrl := rowF_len A 202 r 201 (by decide)
  have hiff := refRight_iff (A := A) (r := r)
  refine FC.intro Try.func23 rfl Try.ntmps23 rfl ?_
  have S := Sub.refl w
  refine RC.seq ?_
  refine RC.region rfl ?_
  refine RL.box rfl rfl rfl (fun b_2 w_2 e_2 z_2 hb_2 s_2 => ?_)
  have ge_2 := S.le e_2
  have S := S.trans s_2
  have hb_2 : Has w_2 b_2 ([.slice na A.nodes.length nc, .slice fa A.free.length fc]) _ := hb_2
  refine RL.ev (.assign rfl) rfl rfl ?_
  refine RL.nil (RC.back ?_)
  refine RC.seq ?_
  refine RC.region rfl ?_
  refine RL.ev (.loadR ([.slice na A.nodes.length nc, .slice fa A.free.length fc]) sh28 rfl hb_2.row rfl) rfl rfl ?_
  refine RL.ev (.move rfl) rfl rfl ?_
  refine RL.call rfl ok24 (c_refRow A na fa nc fc hn 202 r 201 w_2 hr (by decide) (by decide) (by decide) (hA.sub S)) rfl rfl ?_
  rintro _ w1 ⟨a1, c1, rfl, o1, s2⟩
  have S := S.trans s2
  have hb_2 := hb_2.sub s2
  obtain ⟨W1, S1, hl⟩ : ∃ W1, Sub W1 w1 ∧ Sl W1 a1 2 ((rowF A 202 r 201).map It.cells) := ⟨_, Sub.refl _, o1.sl.1⟩
  have hc1 : (rowF A 202 r 201).length ≤ c1 := (by obtain ⟨_, c', e, h⟩ := o1.form; cases e; rw [List.length_map] at h; exact h)
  refine RL.ev (.assign rfl) rfl rfl ?_
  refine RL.nil (RC.back ?_)
  refine RC.seq ?_
  refine RC.region rfl ?_
  refine RL.ev (.loadR ([.slice na A.nodes.length nc, .slice fa A.free.length fc]) sh28 rfl hb_2.row rfl) rfl rfl ?_
  refine RL.call rfl ok32 (c_r4Right A na fa nc fc w1 (hA.sub S)) rfl rfl ?_
  rintro _ w3 ⟨rfl, s4⟩
  have S := S.trans s4
  have hb_2 := hb_2.sub s4
  have S1 := S1.trans s4
  refine RL.ev (.move rfl) rfl rfl ?_
  refine RL.splitB 11 rfl (fun h5 => ?_) (fun h5 => ?_)
  ·
    have hok := (aokB_iff A).1 h5
    refine RL.ev (.move rfl) rfl rfl ?_
    refine RL.ev (.as (v' := .int .i64 ((rowF A 202 r 201).length : Int)) (.len sl23 rfl) (by rw [List.length_map])) rfl rfl ?_
    refine RL.ev (.bin rfl rfl rfl) rfl rfl ?_
    refine RL.ev (.pick_t rfl rfl) rfl rfl ?_
    refine RL.ev (.move rfl) rfl rfl ?_
    refine RL.split 16 rfl (fun h6 => ?_) (fun h6 => ?_)
    ·
      have hle := h6
      refine RL.ev (.move rfl) rfl rfl ?_
      refine RL.call rfl ok47 (c_ordered (rowF A 202 r 201) a1 c1 _ (List.length_map _) w3 (hl.sub S1) (by omega)) rfl rfl ?_
      rintro _ w7 ⟨rfl, s8⟩
      have S := S.trans s8
      have hb_2 := hb_2.sub s8
      have S1 := S1.trans s8
      refine RL.ev (.pick_t rfl rfl) rfl rfl ?_
      refine RL.ev (.move rfl) rfl rfl ?_
      refine RL.splitB 20 rfl (fun h9 => ?_) (fun h9 => ?_)
      ·
        have hsr := (srtB_iff _).1 h9
        refine RL.ev (.loadR ([.slice na A.nodes.length nc, .slice fa A.free.length fc]) sh28 rfl hb_2.row rfl) rfl rfl ?_
        refine RL.ev (.move rfl) rfl rfl ?_
        refine RL.ev (.move rfl) rfl rfl ?_
        refine RL.call rfl ok29 (c_refIs A na fa nc fc hn 202 r (rowF A 202 r 201) a1 c1 _ w7 (List.length_map _) hc1 hr (by omega) (by omega) (hA.sub S) (hl.sub S1)) rfl rfl ?_
        rintro _ w10 ⟨rfl, s11⟩
        have S := S.trans s11
        have hb_2 := hb_2.sub s11
        have S1 := S1.trans s11
        refine RL.ev (.pick_t rfl rfl) rfl rfl ?_
        refine RL.ev (.assign rfl) rfl rfl ?_
        refine RL.nil (RC.back ?_)
        refine RC.done (rs := [.tmp 4]) (vs := [_]) rfl rfl ⟨rfl, trivial⟩ ?_
        -- end 1
        first | (rw [hres]; exact ⟨rfl, S⟩) | (refine ⟨congrArg Value.bool ?_, S⟩; cases h6 : isF A 202 r (rowF A 202 r 201) with | true => exact (isMapB_yes (hiff.1 ⟨hok, by omega, hsr, h6⟩)).symm | false => exact (isMapB_no (fun e => by have := (hiff.2 e).2.2.2; rw [h6] at this; cases this)).symm)
      ·
        have hres : isMapB A r = false := isMapB_no (fun e => by have h2 := h9; rw [(srtB_iff _).2 (hiff.2 e).2.2.1] at h2; cases h2)
        refine RL.off rfl rfl ?_
        refine RL.off rfl rfl ?_
        refine RL.off rfl rfl ?_
        refine RL.off rfl rfl ?_
        refine RL.ev (.pick_f rfl rfl) rfl rfl ?_
        refine RL.ev (.assign rfl) rfl rfl ?_
        refine RL.nil (RC.back ?_)
        refine RC.done (rs := [.tmp 4]) (vs := [_]) rfl rfl ⟨rfl, trivial⟩ ?_
        -- end 2
        first | (rw [hres]; exact ⟨rfl, S⟩) | (refine ⟨congrArg Value.bool ?_, S⟩; cases h6 : isF A 202 r (rowF A 202 r 201) with | true => exact (isMapB_yes (hiff.1 ⟨hok, by omega, hsr, h6⟩)).symm | false => exact (isMapB_no (fun e => by have := (hiff.2 e).2.2.2; rw [h6] at this; cases this)).symm)
    ·
      have hres : isMapB A r = false := isMapB_no (fun e => by have := (hiff.2 e).2.1; omega)
      refine RL.off rfl rfl ?_
      refine RL.off rfl rfl ?_
      refine RL.ev (.pick_f rfl rfl) rfl rfl ?_
      refine RL.ev (.move rfl) rfl rfl ?_
      refine RL.off rfl rfl ?_
      refine RL.off rfl rfl ?_
      refine RL.off rfl rfl ?_
      refine RL.off rfl rfl ?_
      refine RL.ev (.pick_f rfl rfl) rfl rfl ?_
      refine RL.ev (.assign rfl) rfl rfl ?_
      refine RL.nil (RC.back ?_)
      refine RC.done (rs := [.tmp 4]) (vs := [_]) rfl rfl ⟨rfl, trivial⟩ ?_
      -- end 3
      first | (rw [hres]; exact ⟨rfl, S⟩) | (refine ⟨congrArg Value.bool ?_, S⟩; cases h6 : isF A 202 r (rowF A 202 r 201) with | true => exact (isMapB_yes (hiff.1 ⟨hok, by omega, hsr, h6⟩)).symm | false => exact (isMapB_no (fun e => by have := (hiff.2 e).2.2.2; rw [h6] at this; cases this)).symm)
  ·
    have hres : isMapB A r = false := isMapB_no (fun e => by have h2 := h5; rw [aokB_yes e.1] at h2; cases h2)
    refine RL.off rfl rfl ?_
    refine RL.off rfl rfl ?_
    refine RL.off rfl rfl ?_
    refine RL.ev (.pick_f rfl rfl) rfl rfl ?_
    refine RL.ev (.move rfl) rfl rfl ?_
    refine RL.off rfl rfl ?_
    refine RL.off rfl rfl ?_
    refine RL.ev (.pick_f rfl rfl) rfl rfl ?_
    refine RL.ev (.move rfl) rfl rfl ?_
    refine RL.off rfl rfl ?_
    refine RL.off rfl rfl ?_
    refine RL.off rfl rfl ?_
    refine RL.off rfl rfl ?_
    refine RL.ev (.pick_f rfl rfl) rfl rfl ?_
    refine RL.ev (.assign rfl) rfl rfl ?_
    refine RL.nil (RC.back ?_)
    refine RC.done (rs := [.tmp 4]) (vs := [_]) rfl rfl ⟨rfl, trivial⟩ ?_
    -- end 4
    first | (rw [hres]; exact ⟨rfl, S⟩) | (refine ⟨congrArg Value.bool ?_, S⟩; cases h6 : isF A 202 r (rowF A 202 r 201) with | true => exact (isMapB_yes (hiff.1 ⟨hok, by omega, hsr, h6⟩)).symm | false => exact (isMapB_no (fun e => by have := (hiff.2 e).2.2.2; rw [h6] at this; cases this)).symm)
end Go.Proofs.Ytekdjjppdijkmaa
