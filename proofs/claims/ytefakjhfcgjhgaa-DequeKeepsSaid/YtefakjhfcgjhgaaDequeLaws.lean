/-
  What the statements about rows share.
-/
import Derived.Test.YtefakjhfcgjhgaaDequeBuild
import Derived.Test.YtefakjhfcgjhgaaArenaLaws
import Derived.Test.YtefakjhfcgjhgaaI64s
set_option linter.unusedVariables false
set_option linter.unusedSimpArgs false
namespace Go.Proofs.Ytefakjhfcgjhgaa
open Go Go.XL

theorem row_of {A : Ar} {r : Int} {V P : List Int} (hA : AOk A) (h : IsR A r V P) (hl : V.length ≤ 200) : isRow A r := ⟨hA, V, P, h, hl⟩
theorem PushP.good {A B : Ar} {r v r' e : Int} {back : Bool} {V P : List Int} (h : PushP A r back v B r' e) (hA : AOk A) (hV : IsR A r V P) (hl : V.length < 200) (hf : V.length + 2 ≤ A.free.length) :
    e = 0 ∧ Ext A B ∧ AOk B ∧ A.free.length ≤ B.free.length + (V.length + 2) ∧ ∃ M, IsR B r' (pushL V back v) M := by
  rcases h.2.2 V P (row_of hA hV (by omega)) hV with h | h | h
  · omega
  · omega
  · exact h.2
theorem pop_good {A B : Ar} {r r1 v e : Int} {back : Bool} {V P : List Int} (h : ∀ V P, isRow A r → IsR A r V P → (V = [] ∧ e = 3) ∨ (0 < V.length ∧ e = 2 ∧ A.free.length < V.length) ∨ (0 < V.length ∧ e = 0 ∧ v = popV V back ∧ Ext A B ∧ AOk B ∧ A.free.length ≤ B.free.length + V.length ∧ ∃ M, IsR B r1 (popL V back) M)) (hA : AOk A) (hV : IsR A r V P) (hl : V.length ≤ 200) (hf : V.length ≤ A.free.length) :
    (V = [] ∧ e = 3) ∨ (0 < V.length ∧ e = 0 ∧ v = popV V back ∧ Ext A B ∧ AOk B ∧ A.free.length ≤ B.free.length + V.length ∧ ∃ M, IsR B r1 (popL V back) M) := by
  rcases h V P (row_of hA hV hl) hV with h | h | h
  · exact .inl h
  · omega
  · exact .inr h
theorem pushL_len (V : List Int) (back : Bool) (v : Int) : (pushL V back v).length = V.length + 1 := by cases back <;> simp [pushL]
theorem pop_push (V : List Int) (back : Bool) (v : Int) : popL (pushL V back v) back = V ∧ popV (pushL V back v) back = v := by
  cases back
  · simp [pushL, popL, popV]
  · constructor
    · simp [pushL, popL]
    · simp [pushL, popV, List.getD_eq_getElem?_getD]
theorem newA_n (n : Nat) : (newA n).nodes.length = n := by simp [newA]
theorem newA_f (n : Nat) : (newA n).free.length = n := by simp [newA, newFree_len]
theorem c_alive11 (w : World) : FC Try.prog 13 [] w (Val (.bool true) w) := by
  have hok : AOk (newA 500) := newA_ok ⟨by decide, by decide⟩
  refine FC.intro Try.func13 rfl Try.ntmps13 rfl ?_
  have S := Sub.refl w
  refine RC.seq ?_
  refine RC.region rfl ?_
  refine RL.ev (.assign rfl) rfl rfl ?_
  refine RL.nil (RC.back ?_)
  refine RC.seq ?_
  refine RC.region rfl ?_
  refine RL.call rfl ok15 (c_aNew 500 ⟨by decide, by decide⟩ w) rfl rfl ?_
  rintro _ w1 ⟨na, fa, nc, fc, rfl, hnc, hfc, hn0, s2⟩
  have hA := Ft.new hn0 s2
  have S := S.trans s2
  refine RL.ev (.move rfl) rfl rfl ?_
  refine RL.ev (.extract rfl rfl) rfl rfl ?_
  refine RL.ev (.extract rfl rfl) rfl rfl ?_
  refine RL.alloc ze26 rfl rfl (fun b_1 w_1 e_1 z_1 hb_1 s_1 => ?_)
  have ge_1 := S.le e_1
  have d_hA_b_1 := hA.neNew e_1
  have S := S.trans s_1
  have hA := hA.sub s_1
  refine RL.store sh26 rfl rfl rfl hb_1 (by exact Nat.le_of_ble_eq_true rfl) (by rfl) rfl (fun w3 z3 hb_1 a3 => ?_)
  have S := S.upd a3 ge_1
  have hA := hA.updD a3 d_hA_b_1
  have hb_1 : Has w3 b_1 ([.slice na (newA 500).nodes.length nc, .slice fa (newA 500).free.length fc]) _ := hb_1.now (by kernel_rfl)
  refine RL.ev (.assign rfl) rfl rfl ?_
  refine RL.nil (RC.back ?_)
  refine RC.seq ?_
  refine RC.region rfl ?_
  refine RL.ev (.loadR ([.slice na (newA 500).nodes.length nc, .slice fa (newA 500).free.length fc]) sh26 rfl hb_1.row rfl) rfl rfl ?_
  refine RL.call rfl ok11 (c_dpush (newA 500) na fa nc fc hnc hfc 0 true 7 zu0 (by unfold I64; decide) _ w3 hA) rfl rfl ?_
  rintro _ w4 ⟨s5, na', fa', nc', fc', B, r', e, M', rfl, hu, hnc', hfc', hA', hup, hpp⟩
  have d_hA'_b_1 := upNe hup d_hA_b_1 hb_1.lt
  have S := S.trans s5
  have hA := hA.sub s5
  have hb_1 := hb_1.sub s5
  obtain ⟨rfl, hx, hBok, hBf, P1, hB⟩ := hpp.good hok .nil (by decide) (by rw [newA_f]; decide)
  refine RL.ev (.move rfl) rfl rfl ?_
  refine RL.ev (.extract rfl rfl) rfl rfl ?_
  refine RL.ev (.extract rfl rfl) rfl rfl ?_
  refine RL.ev (.extract rfl rfl) rfl rfl ?_
  refine RL.store sh26 rfl rfl rfl hb_1 (by exact Nat.le_of_ble_eq_true rfl) (by rfl) rfl (fun w6 z6 hb_1 a6 => ?_)
  have S := S.upd a6 ge_1
  have hA' := hA'.updD a6 d_hA'_b_1
  have hb_1 : Has w6 b_1 ([.slice na' B.nodes.length nc', .slice fa' B.free.length fc']) _ := hb_1.now (by kernel_rfl)
  refine RL.ev (.assign rfl) rfl rfl ?_
  refine RL.ev (.assign rfl) rfl rfl ?_
  refine RL.nil (RC.back ?_)
  refine RC.seq ?_
  refine RC.region rfl ?_
  refine RL.ev (.loadR ([.slice na' B.nodes.length nc', .slice fa' B.free.length fc']) sh26 rfl hb_1.row rfl) rfl rfl ?_
  refine RL.ev (.move rfl) rfl rfl ?_
  refine RL.call rfl ok18 (c_dAt B na' fa' nc' fc' hnc' hfc' r' 0 hu (by unfold I64; decide) w6 hA'.now) rfl rfl ?_
  rintro _ w7 ⟨s8, z, e5, rfl, _, hz⟩
  have S := S.trans s8
  have hb_1 := hb_1.sub s8
  have hA' := hA'.sub s8
  obtain ⟨_, _, rfl, rfl⟩ := (hz _ _ (row_of hBok hB (by decide)) hB).resolve_left (fun h => h.1 ⟨by decide, by decide⟩)
  refine RL.ev (.move rfl) rfl rfl ?_
  refine RL.ev (.extract rfl rfl) rfl rfl ?_
  refine RL.ev (.extract rfl rfl) rfl rfl ?_
  refine RL.ev (.assign rfl) rfl rfl ?_
  refine RL.ev (.assign rfl) rfl rfl ?_
  refine RL.nil (RC.back ?_)
  refine RC.seq ?_
  refine RC.region rfl ?_
  refine RL.ev (.move rfl) rfl rfl ?_
  refine RL.ev (.as (v' := .bool true) (.bin rfl rfl rfl) (congrArg Value.bool (decide_eq_true (rfl)))) rfl rfl ?_
  refine RL.ev (.move rfl) rfl rfl ?_
  refine RL.ev (.move rfl) rfl rfl ?_
  refine RL.ev (.as (v' := .bool true) (.bin rfl rfl rfl) (congrArg Value.bool (decide_eq_true (rfl)))) rfl rfl ?_
  refine RL.ev (.pick_t rfl rfl) rfl rfl ?_
  refine RL.ev (.move rfl) rfl rfl ?_
  refine RL.ev (.move rfl) rfl rfl ?_
  refine RL.ev (.as (v' := .bool true) (.bin rfl rfl rfl) (congrArg Value.bool (decide_eq_true (rfl)))) rfl rfl ?_
  refine RL.ev (.pick_t rfl rfl) rfl rfl ?_
  refine RL.ev (.move rfl) rfl rfl ?_
  refine RL.ev (.move rfl) rfl rfl ?_
  refine RL.ev (.as (v' := .bool true) (.bin rfl rfl rfl) (congrArg Value.bool (decide_eq_true (rfl)))) rfl rfl ?_
  refine RL.ev (.pick_t rfl rfl) rfl rfl ?_
  refine RL.ev (.assign rfl) rfl rfl ?_
  refine RL.nil (RC.back ?_)
  refine RC.done (rs := [.tmp 0]) (vs := [_]) rfl rfl ⟨rfl, trivial⟩ ?_
  -- end 1
  exact ⟨rfl, S⟩
theorem c_same11y (l m : List Int) (e : l = m) (a b : Option Addr) (c d n k : Nat) (hn : n = l.length) (hk : k = m.length) (w : World) (hl : Sl w a 1 (l.map fun x => [i6 x])) (hm : Sl w b 1 (m.map fun x => [i6 x])) (hb : l.length ≤ 1000000) :
    FC Try.prog 14 [.slice a n c, .slice b k d] w (Val (.bool true) w) := by
  have h := c_same11 l m a b c d n k hn hk w hl hm hb
  rwa [decide_eq_true e] at h
def fewD (A : Ar) : Ar := ⟨A.nodes.take 60, A.free.take 62⟩
theorem fewD_R {w na fa A} (h : ArR w na fa A) : ArR w na fa (fewD A) :=
  ⟨by rw [fewD, List.map_take]; exact h.nodes.take _, by rw [fewD, List.map_take]; exact h.free.take _, fun x hx => h.nok x (List.mem_of_mem_take hx), fun x hx => h.fok x (List.mem_of_mem_take hx)⟩
theorem c_few11 (A : Ar) (na fa : Option Addr) (nc fc : Nat) (hnc : A.nodes.length ≤ nc) (hfc : A.free.length ≤ fc) (w : World) :
    FC Try.prog 21 [arV na fa nc fc A] w (Val (arV na fa nc fc (fewD A)) w) := by
  refine FC.intro Try.func21 rfl Try.ntmps21 rfl ?_
  have S := Sub.refl w
  refine RC.seq ?_
  refine RC.region rfl ?_
  refine RL.box rfl rfl rfl (fun b_1 w_1 e_1 z_1 hb_1 s_1 => ?_)
  have ge_1 := S.le e_1
  have S := S.trans s_1
  have hb_1 : Has w_1 b_1 ([.slice na A.nodes.length nc, .slice fa A.free.length fc]) _ := hb_1
  refine RL.alloc ze26 rfl rfl (fun b_2 w_2 e_2 z_2 hb_2 s_2 => ?_)
  have ge_2 := S.le e_2
  have n_1__2 := hb_1.ne e_2
  have S := S.trans s_2
  have hb_1 := hb_1.sub s_2
  refine RL.nil (RC.back ?_)
  refine RC.seq ?_
  refine RC.drawD (fun k => k = b_1) [15, 17] w_2.heap.size 18 rfl rfl mxo (fun w1 s2 => ?_)
  have hNN : ∀ k, ((k = b_1) ∨ w_2.heap.size ≤ k) → w.heap.size ≤ k := fun k e => e.elim (fun e => e ▸ ge_1) (fun e => Nat.le_trans S.size e)
  have ent_S := S.size
  have hN0 : ∀ k, w_2.heap.size ≤ k → w.heap.size ≤ k := fun k e => Nat.le_trans S.size e
  have ltD_b_1 := hb_1.lt
  have ltD_b_2 := hb_2.lt
  have szD := Nat.le_refl w_2.heap.size
  have S := S.trans s2
  have hb_1 := hb_1.sub s2
  have hb_2 := hb_2.sub s2
  have szD := Nat.le_trans szD s2.size
  refine RD.take 0 rfl (by kernel_rfl) (by kernel_rfl) (by kernel_rfl) (fun w' s' => .field0 fo26_0 rfl) rfl rfl ?_
  refine RD.takeL 1 rfl (by kernel_rfl) (by kernel_rfl) (by kernel_rfl) (by kernel_rfl) (fun w' s' => .load1 sh23 rfl ((hb_1.step s' (fun e => Nat.not_le.2 ltD_b_1 e)).cell rfl)) rfl rfl ?_
  refine RD.take 2 rfl (by kernel_rfl) (by kernel_rfl) (by kernel_rfl) (fun w' s' => .field0 fo26_0 rfl) rfl rfl ?_
  refine RD.takeL 3 rfl (by kernel_rfl) (by kernel_rfl) (by kernel_rfl) (by kernel_rfl) (fun w' s' => .load1 sh23 rfl ((hb_1.step s' (fun e => Nat.not_le.2 ltD_b_1 e)).cell rfl)) rfl rfl ?_
  refine RD.take 4 rfl (by kernel_rfl) (by kernel_rfl) (by kernel_rfl) (fun w' s' => .len sl23 rfl) rfl rfl ?_
  refine RD.take 5 rfl (by kernel_rfl) (by kernel_rfl) (by kernel_rfl) (fun w' s' => .min2 rfl rfl) rfl rfl ?_
  refine RD.take 6 rfl (by kernel_rfl) (by kernel_rfl) (by kernel_rfl) (fun w' s' => .as (v' := .slice na (A.nodes.take 60).length nc) (.sliceHi sl23 rfl rfl (by split <;> omega)) (by rw [← few_len]; rfl)) rfl rfl ?_
  refine RD.take 7 rfl (by kernel_rfl) (by kernel_rfl) (by kernel_rfl) (fun w' s' => .field0 fo26_1 rfl) rfl rfl ?_
  refine RD.takeL 8 rfl (by kernel_rfl) (by kernel_rfl) (by kernel_rfl) (by kernel_rfl) (fun w' s' => .load1 sh24 rfl ((hb_1.step s' (fun e => Nat.not_le.2 ltD_b_1 e)).cell rfl)) rfl rfl ?_
  refine RD.take 9 rfl (by kernel_rfl) (by kernel_rfl) (by kernel_rfl) (fun w' s' => .field0 fo26_1 rfl) rfl rfl ?_
  refine RD.takeL 10 rfl (by kernel_rfl) (by kernel_rfl) (by kernel_rfl) (by kernel_rfl) (fun w' s' => .load1 sh24 rfl ((hb_1.step s' (fun e => Nat.not_le.2 ltD_b_1 e)).cell rfl)) rfl rfl ?_
  refine RD.take 11 rfl (by kernel_rfl) (by kernel_rfl) (by kernel_rfl) (fun w' s' => .len sl24 rfl) rfl rfl ?_
  refine RD.take 12 rfl (by kernel_rfl) (by kernel_rfl) (by kernel_rfl) (fun w' s' => .min2 rfl rfl) rfl rfl ?_
  refine RD.take 13 rfl (by kernel_rfl) (by kernel_rfl) (by kernel_rfl) (fun w' s' => .as (v' := .slice fa (A.free.take 62).length fc) (.sliceHi sl24 rfl rfl (by split <;> omega)) (by rw [← few_len]; rfl)) rfl rfl ?_
  refine RD.take 14 rfl (by kernel_rfl) (by kernel_rfl) (by kernel_rfl) (fun w' s' => .field0 fo26_0 rfl) rfl rfl ?_
  refine RD.all [15] (by kernel_rfl) rfl (RDs.cons rfl ?_ (RDs.nil))
  refine RL.store sh23 rfl rfl rfl hb_1 (by exact Nat.le_of_ble_eq_true rfl) (by rfl) rfl (fun w3 z3 hb_1 a3 => ?_)
  have S := S.upd a3 ge_1
  have hb_2 := hb_2.upd a3 n_1__2.symm
  have szD := Nat.le_trans szD a3.size
  refine RD.backW rfl (a3.mono fun k _ e => e ▸ (.inl (rfl))) ?_
  refine RD.take 16 rfl (by kernel_rfl) (by kernel_rfl) (by kernel_rfl) (fun w' s' => .field0 fo26_1 rfl) rfl rfl ?_
  refine RD.all [17] (by kernel_rfl) rfl (RDs.cons rfl ?_ (RDs.nil))
  refine RL.store sh24 rfl rfl rfl hb_1 (by exact Nat.le_of_ble_eq_true rfl) (by rfl) rfl (fun w4 z4 hb_1 a4 => ?_)
  have S := S.upd a4 ge_1
  have hb_2 := hb_2.upd a4 n_1__2.symm
  have szD := Nat.le_trans szD a4.size
  refine RD.backW rfl (a4.mono fun k _ e => e ▸ (.inl (rfl))) ?_
  refine RD.done (by kernel_rfl) (RC.back ?_)
  refine RC.seq ?_
  refine RC.region rfl ?_
  refine RL.ev (.loadR ([.slice na (A.nodes.take 60).length nc, .slice fa (A.free.take 62).length fc]) sh26 rfl hb_1.row rfl) rfl rfl ?_
  refine RL.store sh26 rfl rfl rfl hb_2 (by exact Nat.le_of_ble_eq_true rfl) (by rfl) rfl (fun w5 z5 hb_2 a5 => ?_)
  have S := S.upd a5 ge_2
  have hb_1 := hb_1.upd a5 n_1__2
  have hb_2 : Has w5 b_2 ([.slice na (A.nodes.take 60).length nc, .slice fa (A.free.take 62).length fc]) _ := hb_2.now (by kernel_rfl)
  refine RL.nil (RC.back ?_)
  refine RC.done (rs := [.cell 2 26]) (vs := [_]) rfl rfl ⟨⟨_, rfl, .inr ⟨[.slice na (A.nodes.take 60).length nc, .slice fa (A.free.take 62).length fc], sh26, hb_2.row, rfl⟩⟩, trivial⟩ ?_
  -- end 1
  exact ⟨rfl, S⟩
theorem c_is11 (A B : Ar) (na fa nb fb : Option Addr) (nc fc ncb fcb : Nat) (r : Int) (hr : U64 r) (V P : List Int) (a : Option Addr) (c n : Nat) (hn : n = V.length) (hB : AOk B) (hE : Ext A B) (hV : IsR B r V P) (hl : V.length ≤ 200) (w : World) (hRA : ArR w na fa A) (hRB : ArR w nb fb B) (hs : Sl w a 1 (V.map fun x => [i6 x])) :
    FC Try.prog 24 [arV na fa nc fc A, arV nb fb ncb fcb B, .int .u64 r, .slice a n c] w (Val (.bool true) w) := by
  have hAn := hRA.nodes
  have hAf := hRA.free
  have hBn := hRB.nodes
  have hBf := hRB.free
  have hlen := hE.len
  have hmost := hB.most
  refine FC.intro Try.func24 rfl Try.ntmps24 rfl ?_
  have S := Sub.refl w
  refine RC.seq ?_
  refine RC.region rfl ?_
  refine RL.box rfl rfl rfl (fun b_4 w_4 e_4 z_4 hb_4 s_4 => ?_)
  have ge_4 := S.le e_4
  have S := S.trans s_4
  have hb_4 : Has w_4 b_4 ([.slice na A.nodes.length nc, .slice fa A.free.length fc]) _ := hb_4
  refine RL.box rfl rfl rfl (fun b_5 w_5 e_5 z_5 hb_5 s_5 => ?_)
  have ge_5 := S.le e_5
  have n_4__5 := hb_4.ne e_5
  have S := S.trans s_5
  have hb_4 := hb_4.sub s_5
  have hb_5 : Has w_5 b_5 ([.slice nb B.nodes.length ncb, .slice fb B.free.length fcb]) _ := hb_5
  refine RL.ev (.assign rfl) rfl rfl ?_
  refine RL.nil (RC.back ?_)
  refine RC.seq ?_
  refine RC.seq ?_
  refine RC.region rfl ?_
  refine RL.ev (.field0 fo26_0 rfl) rfl rfl ?_
  refine RL.ev (.load1 sh23 rfl (hb_4.cell rfl)) rfl rfl ?_
  refine RL.ev (.len sl23 rfl) rfl rfl ?_
  refine RL.ev (.field0 fo26_0 rfl) rfl rfl ?_
  refine RL.ev (.load1 sh23 rfl (hb_5.cell rfl)) rfl rfl ?_
  refine RL.ev (.len sl23 rfl) rfl rfl ?_
  refine RL.ev (.as (v' := .bool false) (.bin rfl rfl rfl) (congrArg Value.bool (decide_eq_false (fun h => h (by omega))))) rfl rfl ?_
  refine RL.nil (RC.back ?_)
  refine RC.cond_f rfl ?_
  refine RC.skip (RC.back ?_)
  refine RC.seq ?_
  refine RC.seq ?_
  refine RC.region rfl ?_
  refine RL.ev (.field0 fo26_0 rfl) rfl rfl ?_
  refine RL.ev (.load1 sh23 rfl (hb_4.cell rfl)) rfl rfl ?_
  refine RL.ev (.len sl23 rfl) rfl rfl ?_
  refine RL.ev (.move rfl) rfl rfl ?_
  refine RL.nil (RC.back ?_)
  refine RC.block ?_
  refine RC.loop (α := Nat) (fun i => [(2, .int .u64 r), (3, .slice a n c), (4, .pointer (some ⟨b_4, 0, none⟩)), (5, .pointer (some ⟨b_5, 0, none⟩)), (21, .slice na A.nodes.length nc), (22, .int .i64 (A.nodes.length : Int)), (23, .int .i64 (i : Int))]) (fun i w1 => i ≤ A.nodes.length ∧ Has w1 b_4 [.slice na A.nodes.length nc, .slice fa A.free.length fc] 26 ∧ Has w1 b_5 [.slice nb B.nodes.length ncb, .slice fb B.free.length fcb] 26 ∧ Sub w w1) (fun i => A.nodes.length - i) 0 (keep_of (by repeat (first | exact trivial | refine And.intro rfl ?_))) (⟨Nat.zero_le _, hb_4, hb_5, S⟩) (fun i w1 hJ => ?_)
  obtain ⟨hi, hb_4, hb_5, S⟩ := hJ
  refine RC.seq ?_
  refine RC.region rfl ?_
  refine RL.ev (.bin rfl rfl rfl) rfl rfl ?_
  refine RL.nil (RC.back ?_)
  refine RC.seq ?_
  refine RC.cond_dec rfl (fun h2 => ?_) (fun h2 => ?_)
  ·
    obtain ⟨x, hx⟩ := getSome (l := A.nodes) (i := i) (by omega)
    refine RC.skip (RC.back ?_)
    refine RC.seq ?_
    refine RC.block ?_
    refine RC.seq ?_
    refine RC.region rfl ?_
    refine RL.ev (.move rfl) rfl rfl ?_
    refine RL.ev (.indexS sl23 rfl rfl (by omega) (hAn.is (i := 0) (by simp only [List.length_map]; omega))) rfl rfl ?_
    refine RL.ev (.loadR (x.cells) sh73 rfl ((hAn.sub S).rowAt (enc := Node.cells) (i := i) hx) rfl) rfl rfl ?_
    refine RL.alloc ze73 rfl rfl (fun b_10 w_10 e_10 z_10 hb_10 s_10 => ?_)
    have ge_10 := S.le e_10
    have n_4__10 := hb_4.ne e_10
    have n_5__10 := hb_5.ne e_10
    have S := S.trans s_10
    have hb_4 := hb_4.sub s_10
    have hb_5 := hb_5.sub s_10
    refine RL.ev (.assign rfl) rfl rfl ?_
    refine RL.store sh73 rfl rfl rfl hb_10 (by exact Nat.le_of_ble_eq_true rfl) (by rfl) rfl (fun w3 z3 hb_10 a3 => ?_)
    have S := S.upd a3 ge_10
    have hb_4 := hb_4.upd a3 n_4__10
    have hb_5 := hb_5.upd a3 n_5__10
    have hb_10 : Has w3 b_10 (x.cells) _ := hb_10.now (by kernel_rfl)
    refine RL.nil (RC.back ?_)
    refine RC.seq ?_
    refine RC.draw rfl mxo (by kernel_rfl) ?_
    refine RQ.ev (.field0 fo73_0 rfl) rfl rfl ?_
    refine RQ.ev (.load1 sh3 rfl (hb_10.cell rfl)) rfl rfl ?_
    refine RQ.ev (.bin rfl rfl rfl) rfl rfl ?_
    refine RQ.ev (.move rfl) rfl rfl ?_
    refine RQ.split 31 rfl (fun h4 => ?_) (fun h4 => ?_)
    ·
      have hk : ¬ x.kind = 0 := h4
      have hy := hE.keep i x hx hk
      refine RQ.ev (.field0 fo26_0 rfl) rfl rfl ?_
      refine RQ.ev (.load1 sh23 rfl (hb_5.cell rfl)) rfl rfl ?_
      refine RQ.ev (.move rfl) rfl rfl ?_
      refine RQ.ev (.indexS sl23 rfl rfl (by omega) (hBn.is (i := 0) (by simp only [List.length_map]; omega))) rfl rfl ?_
      refine RQ.ev (.loadR (x.cells) sh73 rfl ((hBn.sub S).rowAt (enc := Node.cells) (i := i) hy) rfl) rfl rfl ?_
      refine RQ.ev (.loadR (x.cells) sh73 rfl hb_10.row rfl) rfl rfl ?_
      refine RQ.ev (.as (v' := .bool false) (.neS (xs := x.cells) (ys := x.cells) fk73 eg73 sh73 rfl rfl rfl rfl rfl) (congrArg Value.bool (by rw [eqL_cells]; simp))) rfl rfl ?_
      refine RQ.ev (.pick_t rfl rfl) rfl rfl ?_
      refine RQ.nil (fun w5 s6 => RC.back ?_)
      have S := S.trans s6
      have hb_4 := hb_4.sub s6
      have hb_5 := hb_5.sub s6
      have hb_10 := hb_10.sub s6
      refine RC.cond_f rfl ?_
      refine RC.skip (RC.back ?_)
      refine RC.region rfl ?_
      refine RL.ev (.as (.bin rfl rfl rfl) (wi64 (y := ((i + 1 : Nat) : Int)) (by omega) (by omega))) rfl rfl ?_
      refine RL.ev (.move rfl) rfl rfl ?_
      exact RL.nil (fun a ka => ⟨i + 1, ⟨by omega, hb_4, hb_5, S⟩, by omega, ka.keep (keep_of (by repeat (first | exact trivial | refine And.intro rfl ?_)))⟩)
    ·
      refine RQ.off rfl rfl ?_
      refine RQ.off rfl rfl ?_
      refine RQ.off rfl rfl ?_
      refine RQ.off rfl rfl ?_
      refine RQ.off rfl rfl ?_
      refine RQ.off rfl rfl ?_
      refine RQ.off rfl rfl ?_
      refine RQ.ev (.pick_f rfl rfl) rfl rfl ?_
      refine RQ.nil (fun w7 s8 => RC.back ?_)
      have S := S.trans s8
      have hb_4 := hb_4.sub s8
      have hb_5 := hb_5.sub s8
      have hb_10 := hb_10.sub s8
      refine RC.cond_f rfl ?_
      refine RC.skip (RC.back ?_)
      refine RC.region rfl ?_
      refine RL.ev (.as (.bin rfl rfl rfl) (wi64 (y := ((i + 1 : Nat) : Int)) (by omega) (by omega))) rfl rfl ?_
      refine RL.ev (.move rfl) rfl rfl ?_
      exact RL.nil (fun a ka => ⟨i + 1, ⟨by omega, hb_4, hb_5, S⟩, by omega, ka.keep (keep_of (by repeat (first | exact trivial | refine And.intro rfl ?_)))⟩)
  ·
    refine RC.exit rfl (RC.back ?_)
    refine RC.seq ?_
    refine RC.region rfl ?_
    refine RL.ev (.loadR ([.slice nb B.nodes.length ncb, .slice fb B.free.length fcb]) sh26 rfl hb_5.row rfl) rfl rfl ?_
    refine RL.ev (.move rfl) rfl rfl ?_
    refine RL.call rfl ok22 (c_row11 B nb fb ncb fcb (by omega) r hr w1 (hRB.sub S)) rfl rfl ?_
    rintro _ w9 ⟨s10, a2, c2, V2, rfl, hsl, _, hl2, hV2⟩
    have S := S.trans s10
    have hb_4 := hb_4.sub s10
    have hb_5 := hb_5.sub s10
    obtain rfl := hV2 V P (row_of hB hV hl) hV
    refine RL.ev (.move rfl) rfl rfl ?_
    refine RL.ev (.extract rfl rfl) rfl rfl ?_
    refine RL.ev (.as (v' := .bool true) (.extract rfl rfl) (by rw [isRowB_yes (row_of hB hV hl)]; rfl)) rfl rfl ?_
    refine RL.ev (.assign rfl) rfl rfl ?_
    refine RL.ev (.assign rfl) rfl rfl ?_
    refine RL.nil (RC.back ?_)
    refine RC.seq ?_
    refine RC.region rfl ?_
    refine RL.ev (.move rfl) rfl rfl ?_
    refine RL.ev (.move rfl) rfl rfl ?_
    refine RL.ev (.move rfl) rfl rfl ?_
    refine RL.ev (.move rfl) rfl rfl ?_
    refine RL.call rfl ok14 (c_same11 V2 V2 a2 a c2 c _ n (List.length_map _) hn w9 hsl (hs.sub S) (by omega)) rfl rfl ?_
    rintro _ w11 ⟨rfl, s12⟩
    have S := S.trans s12
    have hb_4 := hb_4.sub s12
    have hb_5 := hb_5.sub s12
    refine RL.ev (.pick_t rfl rfl) rfl rfl ?_
    refine RL.ev (.assign rfl) rfl rfl ?_
    refine RL.nil (RC.back ?_)
    refine RC.done (rs := [.tmp 8]) (vs := [_]) rfl rfl ⟨rfl, trivial⟩ ?_
    -- end 1
    exact ⟨congrArg Value.bool (decide_eq_true rfl), S⟩
end Go.Proofs.Ytefakjhfcgjhgaa
