/-
  What is got of an arena; a new arena; copies.
-/
import Derived.Test.YtefakjhfcgjhgaaArenaRef
set_option linter.unusedVariables false
set_option linter.unusedSimpArgs false
namespace Go.Proofs.Ytefakjhfcgjhgaa
open Go Go.XL

/-- the node of a reference, if there is one -/
def getA (A : Ar) (r : Int) : Option Node :=
  if placeR r < 0 then none else
  match A.nodes[(placeR r).toNat]? with
  | none => none
  | some x => if x.kind = 0 ∨ ¬ x.gen = genR r then none else some x
def getV (A : Ar) (r : Int) : Value := match getA A r with
  | some x => .tuple #[x.val, .int .i64 0]
  | none => .tuple #[(bareN 0).val, .int .i64 4]
theorem getA_neg {A : Ar} {r : Int} (h : placeR r < 0 ∨ A.nodes.length ≤ placeR r) : getA A r = none := by
  unfold getA
  split
  · rfl
  · rw [List.getElem?_eq_none (by omega)]
theorem getA_at {A : Ar} {r : Int} {x : Node} (h : 0 ≤ placeR r) (hx : A.nodes[(placeR r).toNat]? = some x) : getA A r = if x.kind = 0 ∨ ¬ x.gen = genR r then none else some x := by
  unfold getA
  rw [if_neg (by omega), hx]
theorem getV_no {A : Ar} {r : Int} (h : getA A r = none) : getV A r = .tuple #[(bareN 0).val, .int .i64 4] := by rw [getV, h]
theorem getV_yes {A : Ar} {r : Int} {x : Node} (h : getA A r = some x) : getV A r = .tuple #[x.val, .int .i64 0] := by rw [getV, h]

theorem c_aGet (A : Ar) (na fa : Option Addr) (nc fc : Nat) (r : Int) (hr : U64 r) (w : World) (hA : ArR w na fa A) :
    FC Try.prog 43 [arV na fa nc fc A, .int .u64 r] w (Val (getV A r) w) := by
  have hN := hA.nodes
  have hFr := hA.free
  refine FC.intro Try.func43 rfl Try.ntmps43 rfl ?_
  have S := Sub.refl w
  refine RC.seq ?_
  refine RC.region rfl ?_
  refine RL.box rfl rfl rfl (fun b_2 w_2 e_2 z_2 hb_2 s_2 => ?_)
  have ge_2 := S.le e_2
  have S := S.trans s_2
  have hb_2 : Has w_2 b_2 ([.slice na A.nodes.length nc, .slice fa A.free.length fc]) _ := hb_2
  refine RL.alloc ze73 rfl rfl (fun b_4 w_4 e_4 z_4 hb_4 s_4 => ?_)
  have ge_4 := S.le e_4
  have n_2__4 := hb_2.ne e_4
  have S := S.trans s_4
  have hb_2 := hb_2.sub s_4
  refine RL.ev (.assign rfl) rfl rfl ?_
  refine RL.nil (RC.back ?_)
  refine RC.seq ?_
  refine RC.region rfl ?_
  refine RL.ev (.move rfl) rfl rfl ?_
  refine RL.call rfl ok53 (c_refPlace r hr w_4) rfl rfl ?_
  rintro _ w1 ⟨rfl, s2⟩
  have S := S.trans s2
  have hb_2 := hb_2.sub s2
  have hb_4 := hb_4.sub s2
  refine RL.ev (.assign rfl) rfl rfl ?_
  refine RL.nil (RC.back ?_)
  refine RC.seq ?_
  refine RC.seq ?_
  refine RC.draw rfl mxo (by kernel_rfl) ?_
  refine RQ.ev (.move rfl) rfl rfl ?_
  refine RQ.ev (.bin rfl rfl rfl) rfl rfl ?_
  refine RQ.ev (.move rfl) rfl rfl ?_
  refine RQ.split 11 rfl (fun h3 => ?_) (fun h3 => ?_)
  ·
    refine RQ.off rfl rfl ?_
    refine RQ.off rfl rfl ?_
    refine RQ.off rfl rfl ?_
    refine RQ.off rfl rfl ?_
    refine RQ.off rfl rfl ?_
    refine RQ.ev (.pick_t rfl rfl) rfl rfl ?_
    refine RQ.ev (.move rfl) rfl rfl ?_
    refine RQ.off rfl rfl ?_
    refine RQ.off rfl rfl ?_
    refine RQ.off rfl rfl ?_
    refine RQ.off rfl rfl ?_
    refine RQ.off rfl rfl ?_
    refine RQ.off rfl rfl ?_
    refine RQ.off rfl rfl ?_
    refine RQ.ev (.pick_t rfl rfl) rfl rfl ?_
    refine RQ.ev (.move rfl) rfl rfl ?_
    refine RQ.off rfl rfl ?_
    refine RQ.off rfl rfl ?_
    refine RQ.off rfl rfl ?_
    refine RQ.off rfl rfl ?_
    refine RQ.off rfl rfl ?_
    refine RQ.off rfl rfl ?_
    refine RQ.off rfl rfl ?_
    refine RQ.off rfl rfl ?_
    refine RQ.off rfl rfl ?_
    refine RQ.ev (.pick_t rfl rfl) rfl rfl ?_
    refine RQ.nil (fun w4 s5 => RC.back ?_)
    have S := S.trans s5
    have hb_2 := hb_2.sub s5
    have hb_4 := hb_4.sub s5
    refine RC.cond_t rfl ?_
    refine RC.seq ?_
    refine RC.region rfl ?_
    refine RL.ev (.buildS ze73 pl73 rfl rfl) rfl rfl ?_
    refine RL.store sh73 rfl rfl rfl hb_4 (by exact Nat.le_of_ble_eq_true rfl) (by rfl) rfl (fun w6 z6 hb_4 a6 => ?_)
    have S := S.upd a6 ge_4
    have hb_2 := hb_2.upd a6 n_2__4
    have hb_4 : Has w6 b_4 ((bareN 0).cells) _ := hb_4.now (by kernel_rfl)
    refine RL.ev (.assign rfl) rfl rfl ?_
    refine RL.nil (RC.back ?_)
    refine RC.done (rs := [.cell 4 73, .tmp 5]) (vs := [_, _]) rfl rfl ⟨⟨_, rfl, .inr ⟨(bareN 0).cells, sh73, hb_4.row, rfl⟩⟩, rfl, trivial⟩ ?_
    -- end 1
    rw [getV_no (getA_neg (by omega))]
    exact ⟨rfl, S⟩
  ·
    refine RQ.ev (.move rfl) rfl rfl ?_
    refine RQ.ev (.field0 fo26_0 rfl) rfl rfl ?_
    refine RQ.ev (.load1 sh23 rfl (hb_2.cell rfl)) rfl rfl ?_
    refine RQ.ev (.len sl23 rfl) rfl rfl ?_
    refine RQ.ev (.bin rfl rfl rfl) rfl rfl ?_
    refine RQ.ev (.pick_f rfl rfl) rfl rfl ?_
    refine RQ.ev (.move rfl) rfl rfl ?_
    refine RQ.split 18 rfl (fun h7 => ?_) (fun h7 => ?_)
    ·
      refine RQ.off rfl rfl ?_
      refine RQ.off rfl rfl ?_
      refine RQ.off rfl rfl ?_
      refine RQ.off rfl rfl ?_
      refine RQ.off rfl rfl ?_
      refine RQ.off rfl rfl ?_
      refine RQ.off rfl rfl ?_
      refine RQ.ev (.pick_t rfl rfl) rfl rfl ?_
      refine RQ.ev (.move rfl) rfl rfl ?_
      refine RQ.off rfl rfl ?_
      refine RQ.off rfl rfl ?_
      refine RQ.off rfl rfl ?_
      refine RQ.off rfl rfl ?_
      refine RQ.off rfl rfl ?_
      refine RQ.off rfl rfl ?_
      refine RQ.off rfl rfl ?_
      refine RQ.off rfl rfl ?_
      refine RQ.off rfl rfl ?_
      refine RQ.ev (.pick_t rfl rfl) rfl rfl ?_
      refine RQ.nil (fun w8 s9 => RC.back ?_)
      have S := S.trans s9
      have hb_2 := hb_2.sub s9
      have hb_4 := hb_4.sub s9
      refine RC.cond_t rfl ?_
      refine RC.seq ?_
      refine RC.region rfl ?_
      refine RL.ev (.buildS ze73 pl73 rfl rfl) rfl rfl ?_
      refine RL.store sh73 rfl rfl rfl hb_4 (by exact Nat.le_of_ble_eq_true rfl) (by rfl) rfl (fun w10 z10 hb_4 a10 => ?_)
      have S := S.upd a10 ge_4
      have hb_2 := hb_2.upd a10 n_2__4
      have hb_4 : Has w10 b_4 ((bareN 0).cells) _ := hb_4.now (by kernel_rfl)
      refine RL.ev (.assign rfl) rfl rfl ?_
      refine RL.nil (RC.back ?_)
      refine RC.done (rs := [.cell 4 73, .tmp 5]) (vs := [_, _]) rfl rfl ⟨⟨_, rfl, .inr ⟨(bareN 0).cells, sh73, hb_4.row, rfl⟩⟩, rfl, trivial⟩ ?_
      -- end 2
      rw [getV_no (getA_neg (by omega))]
      exact ⟨rfl, S⟩
    ·
      obtain ⟨x, hx⟩ := getSome (l := A.nodes) (i := (placeR r).toNat) (by omega)
      have hga := getA_at (by omega) hx
      refine RQ.ev (.field0 fo26_0 rfl) rfl rfl ?_
      refine RQ.ev (.load1 sh23 rfl (hb_2.cell rfl)) rfl rfl ?_
      refine RQ.ev (.move rfl) rfl rfl ?_
      refine RQ.ev (.indexS sl23 rfl rfl (by omega) (hN.is (i := 0) (by simp only [List.length_map]; omega))) rfl rfl ?_
      refine RQ.ev (.fieldA fo73_0 rfl) rfl rfl ?_
      refine RQ.ev (.load1 sh3 rfl ((hN.sub S).cell (enc := Node.cells) (j := 0) hx rfl)) rfl rfl ?_
      refine RQ.ev (.bin rfl rfl rfl) rfl rfl ?_
      refine RQ.ev (.pick_f rfl rfl) rfl rfl ?_
      refine RQ.ev (.move rfl) rfl rfl ?_
      refine RQ.split 27 rfl (fun h11 => ?_) (fun h11 => ?_)
      ·
        have hk := h11
        refine RQ.off rfl rfl ?_
        refine RQ.off rfl rfl ?_
        refine RQ.off rfl rfl ?_
        refine RQ.off rfl rfl ?_
        refine RQ.off rfl rfl ?_
        refine RQ.off rfl rfl ?_
        refine RQ.off rfl rfl ?_
        refine RQ.off rfl rfl ?_
        refine RQ.off rfl rfl ?_
        refine RQ.ev (.pick_t rfl rfl) rfl rfl ?_
        refine RQ.nil (fun w12 s13 => RC.back ?_)
        have S := S.trans s13
        have hb_2 := hb_2.sub s13
        have hb_4 := hb_4.sub s13
        refine RC.cond_t rfl ?_
        refine RC.seq ?_
        refine RC.region rfl ?_
        refine RL.ev (.buildS ze73 pl73 rfl rfl) rfl rfl ?_
        refine RL.store sh73 rfl rfl rfl hb_4 (by exact Nat.le_of_ble_eq_true rfl) (by rfl) rfl (fun w14 z14 hb_4 a14 => ?_)
        have S := S.upd a14 ge_4
        have hb_2 := hb_2.upd a14 n_2__4
        have hb_4 : Has w14 b_4 ((bareN 0).cells) _ := hb_4.now (by kernel_rfl)
        refine RL.ev (.assign rfl) rfl rfl ?_
        refine RL.nil (RC.back ?_)
        refine RC.done (rs := [.cell 4 73, .tmp 5]) (vs := [_, _]) rfl rfl ⟨⟨_, rfl, .inr ⟨(bareN 0).cells, sh73, hb_4.row, rfl⟩⟩, rfl, trivial⟩ ?_
        -- end 3
        rw [getV_no (hga.trans (if_pos (.inl hk)))]
        exact ⟨rfl, S⟩
      ·
        have hk := h11
        refine RQ.ev (.field0 fo26_0 rfl) rfl rfl ?_
        refine RQ.ev (.load1 sh23 rfl (hb_2.cell rfl)) rfl rfl ?_
        refine RQ.ev (.move rfl) rfl rfl ?_
        refine RQ.ev (.indexS sl23 rfl rfl (by omega) (hN.is (i := 0) (by simp only [List.length_map]; omega))) rfl rfl ?_
        refine RQ.ev (.fieldA fo73_1 rfl) rfl rfl ?_
        refine RQ.ev (.load1 sh3 rfl ((hN.sub S).cell (enc := Node.cells) (j := 1) hx rfl)) rfl rfl ?_
        refine RQ.ev (.move rfl) rfl rfl ?_
        refine RQ.call rfl ok60 (fun w' s' => c_refGen r hr w') rfl rfl ?_
        refine RQ.ev (.bin rfl rfl rfl) rfl rfl ?_
        refine RQ.ev (.pick_f rfl rfl) rfl rfl ?_
        refine RQ.nil (fun w15 s16 => RC.back ?_)
        have S := S.trans s16
        have hb_2 := hb_2.sub s16
        have hb_4 := hb_4.sub s16
        refine RC.cond_dec rfl (fun h17 => ?_) (fun h17 => ?_)
        ·
          have hg := h17
          refine RC.seq ?_
          refine RC.region rfl ?_
          refine RL.ev (.buildS ze73 pl73 rfl rfl) rfl rfl ?_
          refine RL.store sh73 rfl rfl rfl hb_4 (by exact Nat.le_of_ble_eq_true rfl) (by rfl) rfl (fun w18 z18 hb_4 a18 => ?_)
          have S := S.upd a18 ge_4
          have hb_2 := hb_2.upd a18 n_2__4
          have hb_4 : Has w18 b_4 ((bareN 0).cells) _ := hb_4.now (by kernel_rfl)
          refine RL.ev (.assign rfl) rfl rfl ?_
          refine RL.nil (RC.back ?_)
          refine RC.done (rs := [.cell 4 73, .tmp 5]) (vs := [_, _]) rfl rfl ⟨⟨_, rfl, .inr ⟨(bareN 0).cells, sh73, hb_4.row, rfl⟩⟩, rfl, trivial⟩ ?_
          -- end 4
          rw [getV_no (hga.trans (if_pos (.inr hg)))]
          exact ⟨rfl, S⟩
        ·
          have hg := h17
          refine RC.skip (RC.back ?_)
          refine RC.seq ?_
          refine RC.region rfl ?_
          refine RL.ev (.field0 fo26_0 rfl) rfl rfl ?_
          refine RL.ev (.load1 sh23 rfl (hb_2.cell rfl)) rfl rfl ?_
          refine RL.ev (.move rfl) rfl rfl ?_
          refine RL.ev (.indexS sl23 rfl rfl (by omega) (hN.is (i := 0) (by simp only [List.length_map]; omega))) rfl rfl ?_
          refine RL.ev (.loadR (x.cells) sh73 rfl ((hN.sub S).rowAt (enc := Node.cells) hx) rfl) rfl rfl ?_
          refine RL.store sh73 rfl rfl rfl hb_4 (by exact Nat.le_of_ble_eq_true rfl) (by rfl) rfl (fun w19 z19 hb_4 a19 => ?_)
          have S := S.upd a19 ge_4
          have hb_2 := hb_2.upd a19 n_2__4
          have hb_4 : Has w19 b_4 (x.cells) _ := hb_4.now (by kernel_rfl)
          refine RL.ev (.assign rfl) rfl rfl ?_
          refine RL.nil (RC.back ?_)
          refine RC.done (rs := [.cell 4 73, .tmp 5]) (vs := [_, _]) rfl rfl ⟨⟨_, rfl, .inr ⟨x.cells, sh73, hb_4.row, rfl⟩⟩, rfl, trivial⟩ ?_
          -- end 5
          rw [getV_yes (hga.trans (if_neg (by rintro (e | e); exact hk e; exact hg e)))]
          exact ⟨rfl, S⟩

/-! ### copies -/
/-- an arena, whole, in memory -/
def ArV (w : World) (v : Value) (A : Ar) : Prop := ∃ na fa nc fc, v = arV na fa nc fc A ∧ A.nodes.length ≤ nc ∧ A.free.length ≤ fc ∧ ArR w na fa A
theorem ArV.sub {w w' v A} (h : ArV w v A) (s : Sub w w') : ArV w' v A := by
  obtain ⟨na, fa, nc, fc, h1, h2, h3, h4⟩ := h
  exact ⟨na, fa, nc, fc, h1, h2, h3, h4.sub s⟩

theorem c_cloneNodes (l : List Node) (a : Option Addr) (c : Nat) (w : World) (hs : Sl w a 16 (l.map Node.cells)) (hl : l.length ≤ 1000) :
    FC Try.prog 62 [.slice a l.length c] w (fun v w' => Ows w.heap.size w' 73 16 v (l.map Node.cells) ∧ Sub w w') := by
  refine FC.intro Try.func62 rfl Try.ntmps62 rfl ?_
  have S := Sub.refl w
  refine RC.seq ?_
  refine RC.region rfl ?_
  refine RL.ev (.assign rfl) rfl rfl ?_
  refine RL.nil (RC.back ?_)
  refine RC.seq ?_
  refine RC.seq ?_
  refine RC.region rfl ?_
  refine RL.ev (.move rfl) rfl rfl ?_
  refine RL.ev (.eqNil sl23 rfl) rfl rfl ?_
  refine RL.nil (RC.back ?_)
  refine RC.cond rfl (fun h1 => ?_) (fun h1 => ?_)
  ·
    have ha : a = none := Option.isNone_iff_eq_none.1 h1
    obtain rfl : l = [] := (by cases l with | nil => rfl | cons x l => exact absurd (hs.some (by simp)) (by simp [ha]))
    subst ha
    refine RC.seq ?_
    refine RC.region rfl ?_
    refine RL.ev (.assign rfl) rfl rfl ?_
    refine RL.nil (RC.back ?_)
    refine RC.done (rs := [.tmp 2]) (vs := [_]) rfl rfl ⟨rfl, trivial⟩ ?_
    -- end 1
    exact ⟨Ows.nil _ _ _ _, S⟩
  ·
    refine RC.skip (RC.back ?_)
    refine RC.seq ?_
    refine RC.region rfl ?_
    refine RL.buildSlice0 sl23 rfl rfl (fun b_5 w_5 e_5 z_5 hb_5 s_5 => ?_)
    have ge_5 := S.le e_5
    have S := S.trans s_5
    refine RL.ev (.move rfl) rfl rfl ?_
    have sz_7 := S.size
    have ltb_5_7 := hb_5.lt
    refine RL.append2 (base := w.heap.size) (rows := []) (news := l.map Node.cells) sl23 ze73 rfl rfl rfl rfl (.inl (Ows.lit0 hb_5 (by omega))) (hs.sub S) (by simp only [List.length_map]) (by intro r hr; obtain ⟨x, _, rfl⟩ := List.mem_map.1 hr; rfl) (by rw [List.all_eq_true]; intro r hr; obtain ⟨x, _, rfl⟩ := List.mem_map.1 hr; rfl) (by (try simp only [List.length_map, List.length_nil, List.length_append, List.length_cons]); omega) (by (try simp only [List.length_map, List.length_nil, List.length_append, List.length_cons]); omega) (by omega) rfl rfl (fun v_7 w_7 hc_7 ho_7 ag_7 ob_7 => ?_)
    have S := S.agrN ag_7 (fun k e => Nat.le_trans (by omega) e.2)
    refine RL.ev (.assign rfl) rfl rfl ?_
    refine RL.nil (RC.back ?_)
    refine RC.done (rs := [.tmp 2]) (vs := [_]) rfl rfl ⟨rfl, trivial⟩ ?_
    -- end 2
    exact ⟨ho_7 (.inr (Ows.lit0 hb_5 (by omega))), S⟩

end Go.Proofs.Ytefakjhfcgjhgaa
