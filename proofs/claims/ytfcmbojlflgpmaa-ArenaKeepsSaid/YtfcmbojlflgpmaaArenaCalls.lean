/-
  The statement ArenaCalls.
-/
import Derived.Test.YtfcmbojlflgpmaaArenaReaches
set_option linter.unusedVariables false
set_option linter.unusedSimpArgs false
namespace Go.Proofs.Ytfcmbojlflgpmaa
open Go Go.XL

section
variable {H : Type} {enc : TypeId × Value → H} {W : World} {base : Nat} {sp : Nat → Bool} {held : Bool} {v : Value} {d : DataW H} {ps : List MemPlace} {r : Reach} {b : Nat}
theorem open_refs (hok : Value.okWide Try.prog W r b 41 v) (h : DataW.Trod enc Try.prog W base sp held 41 v d ps) : ∃ (a : Option Addr) (l : List Int) (c : Nat), v = .slice a l.length c ∧ l.length ≤ c ∧ c ≤ maxLen ∧ Sl W a 1 (l.map fun x => [u6 x]) ∧ ∀ x ∈ l, U64 x :=
  open_sl (fun x => [u6 x]) U64 sl41 rfl rfl fit_ref hok h
end
theorem likeB_same {A B : Ar} (h : A = B) : likeB A B = true := by subst h; exact decide_eq_true ⟨rfl, rfl⟩
theorem c_aNewA (z : Int) (w : World) : FC Try.prog 15 [.int .i64 z] w (fun v w' => ∃ na fa nc fc X e, v = .tuple #[arV na fa nc fc X, .int .i64 e] ∧ X.nodes.length ≤ nc ∧ X.free.length ≤ fc ∧ (∀ N : Nat → Prop, (∀ k, N k → k < w.heap.size) → Imm N (fun u => ArR u na fa X) w') ∧ Sub w w' ∧ (z < 1 ∨ 512 < z → e = 1 ∧ X = ar0) ∧ (1 ≤ z ∧ z ≤ 512 → e = 0 ∧ X = newA z.toNat)) := by
  by_cases h : z < 1 ∨ 512 < z
  · refine (c_aNew_no z h w).mono ?_
    rintro v w' ⟨rfl, hs⟩
    exact ⟨none, none, 0, 0, ar0, 1, rfl, by decide, by decide, fun N _ u _ => ⟨Sl.nil _ _ _, Sl.nil _ _ _, by simp [ar0], by simp [ar0]⟩, hs, fun _ => ⟨rfl, rfl⟩, fun h2 => absurd h (by omega)⟩
  · have hz : z = ((z.toNat : Nat) : Int) := by omega
    rw [hz]
    refine (c_aNew z.toNat (by omega) w).mono ?_
    rintro v w' ⟨na, fa, nc, fc, rfl, h1, h2, h3, h4⟩
    exact ⟨na, fa, nc, fc, _, 0, rfl, h1, h2, h3, h4, fun h2 => absurd h2 (by omega), fun _ => ⟨rfl, by rw [Int.toNat_natCast]⟩⟩
theorem getV_form2 (A : Ar) (r : Int) : ∃ (y : Node) (e : Int), getV A r = .tuple #[y.val, .int .i64 e] ∧ (∀ x, getA A r = some x → y = x ∧ e = 0) ∧ (getA A r = none → y = bareN 0 ∧ e = 4) := by
  cases h : getA A r with
  | none => exact ⟨bareN 0, 4, getV_no h, fun x h => (by cases h), fun _ => ⟨rfl, rfl⟩⟩
  | some x => exact ⟨x, 0, getV_yes h, fun y h => (by cases h; exact ⟨rfl, rfl⟩), fun h => (by cases h)⟩
theorem make_bad {A B : Ar} {x : Node} {r e : Int} (hm : ¬ mayMake A x) (h0 : e = 0 → mayMake A x ∧ 0 < A.free.length ∧ B = makeA A x ∧ r = makeR A) (h1 : ¬ e = 0 → B = ar0 ∧ r = 0 ∧ (¬ mayMake A x ∧ e = 1 ∨ mayMake A x ∧ A.free.length = 0 ∧ e = 2)) : e = 1 ∧ B.nodes.length = 0 ∧ r = 0 := by
  by_cases he : e = 0
  · exact absurd (h0 he).1 hm
  · obtain ⟨hB, hr, h | h⟩ := h1 he
    · exact ⟨h.2, by rw [hB]; rfl, hr⟩
    · exact absurd h.1 hm
theorem make_empty {A B : Ar} {x : Node} {r e : Int} (hm : mayMake A x) (hp : A.free.length = 0) (h0 : e = 0 → mayMake A x ∧ 0 < A.free.length ∧ B = makeA A x ∧ r = makeR A) (h1 : ¬ e = 0 → B = ar0 ∧ r = 0 ∧ (¬ mayMake A x ∧ e = 1 ∨ mayMake A x ∧ A.free.length = 0 ∧ e = 2)) : e = 2 ∧ B.nodes.length = 0 ∧ r = 0 := by
  by_cases he : e = 0
  · have := (h0 he).2.1; omega
  · obtain ⟨hB, hr, h | h⟩ := h1 he
    · exact absurd hm h.1
    · exact ⟨h.2.2, by rw [hB]; rfl, hr⟩
theorem make_good {A B : Ar} {x : Node} {r e : Int} (hm : mayMake A x) (hp : 0 < A.free.length) (h0 : e = 0 → mayMake A x ∧ 0 < A.free.length ∧ B = makeA A x ∧ r = makeR A) (h1 : ¬ e = 0 → B = ar0 ∧ r = 0 ∧ (¬ mayMake A x ∧ e = 1 ∨ mayMake A x ∧ A.free.length = 0 ∧ e = 2)) : e = 0 ∧ B = makeA A x ∧ r = makeR A := by
  by_cases he : e = 0
  · exact ⟨he, (h0 he).2.2⟩
  · obtain ⟨hB, hr, h | h⟩ := h1 he
    · exact absurd hm h.1
    · omega
theorem newA_ends {n : Nat} (h : 1 ≤ n) : (newA n).free[0]? = some ((n : Int) - 1) ∧ (newA n).free[n - 1]? = some 0 := by
  constructor
  · simp [newA, newFree, List.getElem?_range (show 0 < n by omega)]
  · simp only [newA, newFree, List.getElem?_map, List.getElem?_range (show n - 1 < n by omega), Option.map_some]
    congr 1
    omega
set_option maxHeartbeats 4000000 in
theorem law_ArenaCalls (w : World) (A : Ar) (na fa : Option Addr) (nc fc : Nat) (hnc : A.nodes.length ≤ nc) (hfc : A.free.length ≤ fc) (hA : ArR w na fa A) (size : Int) (wz : (Lit.int .i64 size).wf = true) (r : Int) (wr : (Lit.int .u64 r).wf = true) (x : Node) (hx : x.ok) (l : List Int) (pa : Option Addr) (pc : Nat) (hlc : l.length ≤ pc) (hs : Sl w pa 1 (l.map fun x => [u6 x])) (hli : ∀ x ∈ l, U64 x) :
    FC Try.prog 7 [arV na fa nc fc A, .int .i64 size, .int .u64 r, x.val, .slice pa l.length pc] w (Val (.bool true) w) := by
  have hr := wfU wr
  have hsz := wfI wz
  have hfN : (fewA A).nodes.length ≤ nc := by simp only [fewA, List.length_take]; omega
  have hfF : (fewA A).free.length ≤ fc := by simp only [fewA, List.length_take]; omega
  have hf40 : (fewA A).nodes.length ≤ 40 := by simp only [fewA, List.length_take]; omega
  have hf42 : (fewA A).free.length ≤ 42 := by simp only [fewA, List.length_take]; omega
  have hA' := fewA_R hA
  have hl10 : (l.take 10).length ≤ 10 := by simp only [List.length_take]; omega
  have hs' : Sl w pa 1 ((l.take 10).map fun x => [u6 x]) := by rw [List.map_take]; exact hs.take 10
  have hli' : ∀ x ∈ l.take 10, U64 x := fun x hx => hli x (List.mem_of_mem_take hx)
  obtain ⟨y, ey, hgv, hgs, hgn⟩ := getV_form2 (fewA A) r
  have hAn := hA'.nodes
  have hAf := hA'.free
  have haf := atA_form (fewA A) r
  have ek : (x0 x).kind = x.kind := rfl
  refine FC.intro Try.func7 rfl Try.ntmps7 rfl ?_
  have S := Sub.refl w
  have nb := NB.nil w
  have hI : Imm (fun _ => False) (fun u => ArR u na fa (fewA A)) w := fun u hu => hA'.sub hu.sub
  have hR : Imm (fun _ => False) (fun u => Sl u pa 1 ((l.take 10).map fun x => [u6 x])) w := fun u hu => hs'.sub hu.sub
  refine RC.seq ?_
  refine RC.region rfl ?_
  refine RL.box rfl rfl rfl (fun b_5 w_5 e_5 z_5 hb_5 s_5 => ?_)
  have ge_5 := S.le e_5
  have S := S.trans s_5
  have nb := nb.add s_5 e_5 z_5
  have hI := hI.add s_5 e_5
  have hR := hR.add s_5 e_5
  have hb_5 : Has w_5 b_5 ([.slice na A.nodes.length nc, .slice fa A.free.length fc]) _ := hb_5
  refine RL.box rfl rfl rfl (fun b_8 w_8 e_8 z_8 hb_8 s_8 => ?_)
  have ge_8 := S.le e_8
  have n_5__8 := hb_5.ne e_8
  have S := S.trans s_8
  have nb := nb.add s_8 e_8 z_8
  have hI := hI.add s_8 e_8
  have hR := hR.add s_8 e_8
  have hb_5 := hb_5.sub s_8
  have hb_8 : Has w_8 b_8 (x.cells) _ := hb_8
  refine RL.ev (.assign rfl) rfl rfl ?_
  refine RL.nil (RC.back ?_)
  refine RC.seq ?_
  refine RC.drawD (fun k => k = b_5) [7] w_8.heap.size 9 rfl rfl mxo (fun w1 s2 => ?_)
  have hNN : ∀ k, ((k = b_5) ∨ w_8.heap.size ≤ k) → w.heap.size ≤ k := fun k e => e.elim (fun e => e ▸ ge_5) (fun e => Nat.le_trans S.size e)
  have ent_S := S.size
  have hN0 : ∀ k, w_8.heap.size ≤ k → w.heap.size ≤ k := fun k e => Nat.le_trans S.size e
  have ltD_b_5 := hb_5.lt
  have ltD_b_8 := hb_8.lt
  have szD := Nat.le_refl w_8.heap.size
  have S := S.trans s2
  have nb := nb.sub s2
  have hI := hI.sub s2
  have hR := hR.sub s2
  have hb_5 := hb_5.sub s2
  have hb_8 := hb_8.sub s2
  have szD := Nat.le_trans szD s2.size
  refine RD.takeL 0 rfl (by kernel_rfl) (by kernel_rfl) (by kernel_rfl) (by kernel_rfl) (fun w' s' => .loadR ([.slice na A.nodes.length nc, .slice fa A.free.length fc]) sh25 rfl (hb_5.step s' (fun e => Nat.not_le.2 ltD_b_5 e)).row rfl) rfl rfl ?_
  refine RD.take 2 rfl (by kernel_rfl) (by kernel_rfl) (by kernel_rfl) (fun w' s' => .move rfl) rfl rfl ?_
  refine RD.take 3 rfl (by kernel_rfl) (by kernel_rfl) (by kernel_rfl) (fun w' s' => .move rfl) rfl rfl ?_
  refine RD.take 4 rfl (by kernel_rfl) (by kernel_rfl) (by kernel_rfl) (fun w' s' => .len sl41 rfl) rfl rfl ?_
  refine RD.take 5 rfl (by kernel_rfl) (by kernel_rfl) (by kernel_rfl) (fun w' s' => .min2 rfl rfl) rfl rfl ?_
  refine RD.take 6 rfl (by kernel_rfl) (by kernel_rfl) (by kernel_rfl) (fun w' s' => .as (v' := .slice pa (l.take 10).length pc) (.sliceHi sl41 rfl rfl (by split <;> omega)) (by rw [← few_len]; rfl)) rfl rfl ?_
  refine RD.all [1] (by kernel_rfl) rfl (RDs.cons rfl ?_ (RDs.nil))
  refine RL.call rfl ok9 (c_few A na fa nc fc hnc hfc w1) rfl rfl ?_
  rintro _ w3 ⟨rfl, s4⟩
  have S := S.trans s4
  have nb := nb.sub s4
  have hI := hI.sub s4
  have hR := hR.sub s4
  have hb_5 := hb_5.sub s4
  have hb_8 := hb_8.sub s4
  have szD := Nat.le_trans szD s4.size
  refine RD.back s4.agr ?_
  refine RD.all [7] (by kernel_rfl) rfl (RDs.cons rfl ?_ (RDs.nil))
  refine RL.store sh25 rfl rfl rfl hb_5 (by exact Nat.le_of_ble_eq_true rfl) (by rfl) rfl (fun w5 z5 hb_5 a5 => ?_)
  have S := S.upd a5 ge_5
  have nb := nb.upd a5
  have hI := hI.upd a5 (.inl (.inr rfl))
  have hR := hR.upd a5 (.inl (.inr rfl))
  have hb_8 := hb_8.upd a5 n_5__8.symm
  have szD := Nat.le_trans szD a5.size
  have hb_5 : Has w5 b_5 ([.slice na (fewA A).nodes.length nc, .slice fa (fewA A).free.length fc]) _ := hb_5.now (by kernel_rfl)
  refine RD.backW rfl (a5.mono fun k _ e => e ▸ (.inl (rfl))) ?_
  refine RD.take 8 rfl (by kernel_rfl) (by kernel_rfl) (by kernel_rfl) (fun w' s' => .assign rfl) rfl rfl ?_
  refine RD.done (by kernel_rfl) (RC.back ?_)
  refine RC.seq ?_
  refine RC.region rfl ?_
  refine RL.ev (.move rfl) rfl rfl ?_
  refine RL.call rfl ok15 (c_aNewA size w5) rfl rfl ?_
  rintro _ w6 ⟨nx, fx, ncx, fcx, X, ex, rfl, hnX, hfX, hiX, s7, hx1, hx2⟩
  have hX := hiX _ nb
  have S := S.trans s7
  have nb := nb.sub s7
  have hI := hI.sub s7
  have hR := hR.sub s7
  have hb_5 := hb_5.sub s7
  have hb_8 := hb_8.sub s7
  refine RL.ev (.move rfl) rfl rfl ?_
  refine RL.ev (.extract rfl rfl) rfl rfl ?_
  refine RL.ev (.extract rfl rfl) rfl rfl ?_
  refine RL.alloc ze25 rfl rfl (fun b_11 w_11 e_11 z_11 hb_11 s_11 => ?_)
  have ge_11 := S.le e_11
  have n_5__11 := hb_5.ne e_11
  have n_8__11 := hb_8.ne e_11
  have S := S.trans s_11
  have nb := nb.add s_11 e_11 z_11
  have hI := hI.add s_11 e_11
  have hR := hR.add s_11 e_11
  have hb_5 := hb_5.sub s_11
  have hb_8 := hb_8.sub s_11
  have hX := hX.add s_11 e_11
  refine RL.store sh25 rfl rfl rfl hb_11 (by exact Nat.le_of_ble_eq_true rfl) (by rfl) rfl (fun w8 z8 hb_11 a8 => ?_)
  have S := S.upd a8 ge_11
  have nb := nb.upd a8
  have hI := hI.upd a8 (.inr rfl)
  have hR := hR.upd a8 (.inr rfl)
  have hb_5 := hb_5.upd a8 n_5__11
  have hb_8 := hb_8.upd a8 n_8__11
  have hX := hX.upd a8 (.inr rfl)
  have hb_11 : Has w8 b_11 ([.slice nx X.nodes.length ncx, .slice fx X.free.length fcx]) _ := hb_11.now (by kernel_rfl)
  refine RL.ev (.assign rfl) rfl rfl ?_
  refine RL.nil (RC.back ?_)
  refine RC.seq ?_
  refine RC.region rfl ?_
  refine RL.ev (.loadR ([.slice na (fewA A).nodes.length nc, .slice fa (fewA A).free.length fc]) sh25 rfl hb_5.row rfl) rfl rfl ?_
  refine RL.ev (.move rfl) rfl rfl ?_
  refine RL.call rfl ok16 (c_aGet (fewA A) na fa nc fc r hr w8 hI.now) rfl rfl ?_
  rintro _ w9 ⟨rfl, s10⟩
  have S := S.trans s10
  have nb := nb.sub s10
  have hI := hI.sub s10
  have hR := hR.sub s10
  have hb_5 := hb_5.sub s10
  have hb_8 := hb_8.sub s10
  have hX := hX.sub s10
  have hb_11 := hb_11.sub s10
  refine RL.ev (.as (v' := .tuple #[y.val, .int .i64 ey]) (.move rfl) (by rw [hgv])) rfl rfl ?_
  refine RL.ev (.extract rfl rfl) rfl rfl ?_
  refine RL.ev (.extract rfl rfl) rfl rfl ?_
  refine RL.alloc ze35 rfl rfl (fun b_13 w_13 e_13 z_13 hb_13 s_13 => ?_)
  have ge_13 := S.le e_13
  have n_5__13 := hb_5.ne e_13
  have n_8__13 := hb_8.ne e_13
  have n_11__13 := hb_11.ne e_13
  have S := S.trans s_13
  have nb := nb.add s_13 e_13 z_13
  have hI := hI.add s_13 e_13
  have hR := hR.add s_13 e_13
  have hb_5 := hb_5.sub s_13
  have hb_8 := hb_8.sub s_13
  have hX := hX.add s_13 e_13
  have hb_11 := hb_11.sub s_13
  refine RL.store sh35 rfl rfl rfl hb_13 (by exact Nat.le_of_ble_eq_true rfl) (by rfl) rfl (fun w11 z11 hb_13 a11 => ?_)
  have S := S.upd a11 ge_13
  have nb := nb.upd a11
  have hI := hI.upd a11 (.inr rfl)
  have hR := hR.upd a11 (.inr rfl)
  have hb_5 := hb_5.upd a11 n_5__13
  have hb_8 := hb_8.upd a11 n_8__13
  have hX := hX.upd a11 (.inr rfl)
  have hb_11 := hb_11.upd a11 n_11__13
  have hb_13 : Has w11 b_13 (y.cells) _ := hb_13.now (by kernel_rfl)
  refine RL.ev (.assign rfl) rfl rfl ?_
  refine RL.nil (RC.back ?_)
  refine RC.seq ?_
  refine RC.region rfl ?_
  refine RL.ev (.loadR ([.slice na (fewA A).nodes.length nc, .slice fa (fewA A).free.length fc]) sh25 rfl hb_5.row rfl) rfl rfl ?_
  refine RL.ev (.loadR (x.cells) sh35 rfl hb_8.row rfl) rfl rfl ?_
  refine RL.call rfl ok17 (c_aMake (fewA A) na fa nc fc x hx w11 hI.now hfF) rfl rfl ?_
  rintro _ w12 ⟨s13, hr2⟩
  obtain ⟨nb', fb', ncb, fcb, B, rB, eB, rfl, hnB, hfB, hiB, he0, he1⟩ := make_form hr2
  have hB := hiB _ nb hI
  have S := S.trans s13
  have nb := nb.sub s13
  have hI := hI.sub s13
  have hR := hR.sub s13
  have hb_5 := hb_5.sub s13
  have hb_8 := hb_8.sub s13
  have hX := hX.sub s13
  have hb_11 := hb_11.sub s13
  have hb_13 := hb_13.sub s13
  refine RL.ev (.move rfl) rfl rfl ?_
  refine RL.ev (.extract rfl rfl) rfl rfl ?_
  refine RL.ev (.extract rfl rfl) rfl rfl ?_
  refine RL.ev (.extract rfl rfl) rfl rfl ?_
  refine RL.alloc ze25 rfl rfl (fun b_15 w_15 e_15 z_15 hb_15 s_15 => ?_)
  have ge_15 := S.le e_15
  have n_5__15 := hb_5.ne e_15
  have n_8__15 := hb_8.ne e_15
  have n_11__15 := hb_11.ne e_15
  have n_13__15 := hb_13.ne e_15
  have S := S.trans s_15
  have nb := nb.add s_15 e_15 z_15
  have hI := hI.add s_15 e_15
  have hR := hR.add s_15 e_15
  have hb_5 := hb_5.sub s_15
  have hb_8 := hb_8.sub s_15
  have hX := hX.add s_15 e_15
  have hb_11 := hb_11.sub s_15
  have hb_13 := hb_13.sub s_15
  have hB := hB.add s_15 e_15
  refine RL.store sh25 rfl rfl rfl hb_15 (by exact Nat.le_of_ble_eq_true rfl) (by rfl) rfl (fun w14 z14 hb_15 a14 => ?_)
  have S := S.upd a14 ge_15
  have nb := nb.upd a14
  have hI := hI.upd a14 (.inr rfl)
  have hR := hR.upd a14 (.inr rfl)
  have hb_5 := hb_5.upd a14 n_5__15
  have hb_8 := hb_8.upd a14 n_8__15
  have hX := hX.upd a14 (.inr rfl)
  have hb_11 := hb_11.upd a14 n_11__15
  have hb_13 := hb_13.upd a14 n_13__15
  have hB := hB.upd a14 (.inr rfl)
  have hb_15 : Has w14 b_15 ([.slice nb' B.nodes.length ncb, .slice fb' B.free.length fcb]) _ := hb_15.now (by kernel_rfl)
  refine RL.ev (.assign rfl) rfl rfl ?_
  refine RL.ev (.assign rfl) rfl rfl ?_
  refine RL.nil (RC.back ?_)
  refine RC.seq ?_
  refine RC.region rfl ?_
  refine RL.ev (.loadR ([.slice na (fewA A).nodes.length nc, .slice fa (fewA A).free.length fc]) sh25 rfl hb_5.row rfl) rfl rfl ?_
  refine RL.ev (.move rfl) rfl rfl ?_
  refine RL.call rfl ok18 (c_aReach (fewA A) na fa nc fc (l.take 10) (l.take 10).length rfl pa pc (by omega) hli' w14 hI.now hR.now) rfl rfl ?_
  rintro _ w15 ⟨s16, hr3⟩
  obtain ⟨L, la, lc, le, rfl, hlc2, hLp, hiL, hL0, hL1⟩ := reach_form hr3
  have hL := hiL _ nb
  have S := S.trans s16
  have nb := nb.sub s16
  have hI := hI.sub s16
  have hR := hR.sub s16
  have hb_5 := hb_5.sub s16
  have hb_8 := hb_8.sub s16
  have hX := hX.sub s16
  have hb_11 := hb_11.sub s16
  have hb_13 := hb_13.sub s16
  have hB := hB.sub s16
  have hb_15 := hb_15.sub s16
  refine RL.ev (.move rfl) rfl rfl ?_
  refine RL.ev (.extract rfl rfl) rfl rfl ?_
  refine RL.ev (.extract rfl rfl) rfl rfl ?_
  refine RL.ev (.assign rfl) rfl rfl ?_
  refine RL.ev (.assign rfl) rfl rfl ?_
  refine RL.nil (RC.back ?_)
  refine RC.cutx (α := Unit) (fun _ => [(2, .int .u64 r), (4, .slice pa (l.take 10).length pc), (5, .pointer (some ⟨b_5, 0, none⟩)), (8, .pointer (some ⟨b_8, 0, none⟩)), (13, .pointer (some ⟨b_13, 0, none⟩)), (14, .int .i64 ey), (15, .pointer (some ⟨b_15, 0, none⟩)), (16, .int .u64 rB), (17, .int .i64 eB), (18, .slice la L.length lc), (19, .int .i64 le)]) (fun _ w17 => Has w17 b_5 [.slice na (fewA A).nodes.length nc, .slice fa (fewA A).free.length fc] 25 ∧ Has w17 b_8 x.cells 35 ∧ Has w17 b_13 y.cells 35 ∧ Has w17 b_15 [.slice nb' B.nodes.length ncb, .slice fb' B.free.length fcb] 25 ∧ NB (Nadd (Nadd (Nadd (Nadd (Nadd (fun _ => False) b_5) b_8) b_11) b_13) b_15) w17 ∧ Imm (Nadd (Nadd (Nadd (Nadd (Nadd (fun _ => False) b_5) b_8) b_11) b_13) b_15) (fun u => ArR u na fa (fewA A)) w17 ∧ Imm (Nadd (Nadd (Nadd (Nadd (Nadd (fun _ => False) b_5) b_8) b_11) b_13) b_15) (fun u => Sl u pa 1 ((l.take 10).map fun x => [u6 x])) w17 ∧ Imm (Nadd (Nadd (Nadd (Nadd (Nadd (fun _ => False) b_5) b_8) b_11) b_13) b_15) (fun u => ArR u nb' fb' B) w17 ∧ Imm (Nadd (Nadd (Nadd (Nadd (Nadd (fun _ => False) b_5) b_8) b_11) b_13) b_15) (fun u => Sl u la 1 (L.map fun x => [i6 x])) w17 ∧ Sub w w17) ?_ (fun _ w17 hJ => ?_)
  ·
    refine RC.seq ?_
    refine RC.region rfl ?_
    refine RL.ev (.move rfl) rfl rfl ?_
    refine RL.ev (.bin rfl rfl rfl) rfl rfl ?_
    refine RL.ev (.move rfl) rfl rfl ?_
    refine RL.split 61 rfl (fun h18 => ?_) (fun h18 => ?_)
    ·
      obtain ⟨he, hX0⟩ := hx1 (.inl h18)
      refine RL.off rfl rfl ?_
      refine RL.off rfl rfl ?_
      refine RL.ev (.pick_t rfl rfl) rfl rfl ?_
      refine RL.nil (RC.back ?_)
      refine RC.cond_t rfl ?_
      refine RC.seq ?_
      refine RC.region rfl ?_
      refine RL.ev (.move rfl) rfl rfl ?_
      refine RL.ev (.as (v' := .bool false) (.bin rfl rfl rfl) (congrArg Value.bool (decide_eq_false (fun h => h he)))) rfl rfl ?_
      refine RL.ev (.move rfl) rfl rfl ?_
      refine RL.ev (.field0 fo25_0 rfl) rfl rfl ?_
      refine RL.ev (.load1 sh22 rfl (hb_11.cell rfl)) rfl rfl ?_
      refine RL.ev (.len sl22 rfl) rfl rfl ?_
      refine RL.ev (.as (v' := .bool false) (.bin rfl rfl rfl) (congrArg Value.bool (decide_eq_false (fun h => h (by rw [hX0]; rfl))))) rfl rfl ?_
      refine RL.ev (.pick_f rfl rfl) rfl rfl ?_
      refine RL.nil (RC.back ?_)
      refine RC.cond_f rfl ?_
      exact RC.skip (fun a ka => ⟨(), ⟨hb_5, hb_8, hb_13, hb_15, nb, hI, hR, hB, hL, S⟩, ka.keep (keep_of (by repeat (first | exact trivial | refine And.intro rfl ?_)))⟩)
    ·
      refine RL.ev (.move rfl) rfl rfl ?_
      refine RL.ev (.bin rfl rfl rfl) rfl rfl ?_
      refine RL.ev (.pick_f rfl rfl) rfl rfl ?_
      refine RL.nil (RC.back ?_)
      refine RC.cond_dec rfl (fun h19 => ?_) (fun h19 => ?_)
      ·
        obtain ⟨he, hX0⟩ := hx1 (.inr (by omega))
        refine RC.seq ?_
        refine RC.region rfl ?_
        refine RL.ev (.move rfl) rfl rfl ?_
        refine RL.ev (.as (v' := .bool false) (.bin rfl rfl rfl) (congrArg Value.bool (decide_eq_false (fun h => h he)))) rfl rfl ?_
        refine RL.ev (.move rfl) rfl rfl ?_
        refine RL.ev (.field0 fo25_0 rfl) rfl rfl ?_
        refine RL.ev (.load1 sh22 rfl (hb_11.cell rfl)) rfl rfl ?_
        refine RL.ev (.len sl22 rfl) rfl rfl ?_
        refine RL.ev (.as (v' := .bool false) (.bin rfl rfl rfl) (congrArg Value.bool (decide_eq_false (fun h => h (by rw [hX0]; rfl))))) rfl rfl ?_
        refine RL.ev (.pick_f rfl rfl) rfl rfl ?_
        refine RL.nil (RC.back ?_)
        refine RC.cond_f rfl ?_
        exact RC.skip (fun a ka => ⟨(), ⟨hb_5, hb_8, hb_13, hb_15, nb, hI, hR, hB, hL, S⟩, ka.keep (keep_of (by repeat (first | exact trivial | refine And.intro rfl ?_)))⟩)
      ·
        obtain ⟨he, hX0⟩ := hx2 (by omega)
        obtain ⟨n, hn⟩ : ∃ n : Nat, size = n := ⟨size.toNat, by omega⟩
        subst hn
        rw [Int.toNat_natCast] at hX0
        have hXl : (X.nodes.length : Int) = n := (by rw [hX0]; simp [newA])
        have hXf : (X.free.length : Int) = n := (by rw [hX0]; simp [newA, newFree])
        obtain ⟨hz0, hz1⟩ := newA_ends (n := n) (by omega)
        rw [← hX0] at hz0 hz1
        have hXok : AOk X := (hX0 ▸ newA_ok (by omega))
        refine RC.seq ?_
        refine RC.region rfl ?_
        refine RL.ev (.move rfl) rfl rfl ?_
        refine RL.ev (.as (v' := .bool false) (.bin rfl rfl rfl) (congrArg Value.bool (decide_eq_false (fun h => h he)))) rfl rfl ?_
        refine RL.ev (.move rfl) rfl rfl ?_
        refine RL.ev (.field0 fo25_0 rfl) rfl rfl ?_
        refine RL.ev (.load1 sh22 rfl (hb_11.cell rfl)) rfl rfl ?_
        refine RL.ev (.len sl22 rfl) rfl rfl ?_
        refine RL.ev (.move rfl) rfl rfl ?_
        refine RL.ev (.as (v' := .bool false) (.bin rfl rfl rfl) (congrArg Value.bool (decide_eq_false (fun h => h hXl)))) rfl rfl ?_
        refine RL.ev (.pick_f rfl rfl) rfl rfl ?_
        refine RL.ev (.move rfl) rfl rfl ?_
        refine RL.ev (.field0 fo25_1 rfl) rfl rfl ?_
        refine RL.ev (.load1 sh23 rfl (hb_11.cell rfl)) rfl rfl ?_
        refine RL.ev (.len sl23 rfl) rfl rfl ?_
        refine RL.ev (.move rfl) rfl rfl ?_
        refine RL.ev (.as (v' := .bool false) (.bin rfl rfl rfl) (congrArg Value.bool (decide_eq_false (fun h => h hXf)))) rfl rfl ?_
        refine RL.ev (.pick_f rfl rfl) rfl rfl ?_
        refine RL.ev (.move rfl) rfl rfl ?_
        refine RL.ev (.field0 fo25_1 rfl) rfl rfl ?_
        refine RL.ev (.load1 sh23 rfl (hb_11.cell rfl)) rfl rfl ?_
        refine RL.ev (.indexS sl23 rfl rfl (by omega) (hX.now.free.is (i := 0) (by simp only [List.length_map]; omega))) rfl rfl ?_
        refine RL.ev (.load1 sh3 rfl (hX.now.free.one (enc := i6) (i := 0) hz0)) rfl rfl ?_
        refine RL.ev (.move rfl) rfl rfl ?_
        refine RL.ev (.as (.bin rfl rfl rfl) (wi64 (y := (n : Int) - 1) (by rfl) (by omega))) rfl rfl ?_
        refine RL.ev (.as (v' := .bool false) (.bin rfl rfl rfl) (congrArg Value.bool (decide_eq_false (fun h => h rfl)))) rfl rfl ?_
        refine RL.ev (.pick_f rfl rfl) rfl rfl ?_
        refine RL.ev (.move rfl) rfl rfl ?_
        refine RL.ev (.field0 fo25_1 rfl) rfl rfl ?_
        refine RL.ev (.load1 sh23 rfl (hb_11.cell rfl)) rfl rfl ?_
        refine RL.ev (.move rfl) rfl rfl ?_
        refine RL.ev (.as (.bin rfl rfl rfl) (wi64 (y := ((n - 1 : Nat) : Int)) (by omega) (by omega))) rfl rfl ?_
        refine RL.ev (.indexS sl23 rfl rfl (by omega) (hX.now.free.is (i := 0) (by simp only [List.length_map]; omega))) rfl rfl ?_
        refine RL.ev (.load1 sh3 rfl (hX.now.free.one (enc := i6) (i := n - 1) hz1)) rfl rfl ?_
        refine RL.ev (.as (v' := .bool false) (.bin rfl rfl rfl) (congrArg Value.bool (decide_eq_false (fun h => h rfl)))) rfl rfl ?_
        refine RL.ev (.pick_f rfl rfl) rfl rfl ?_
        refine RL.ev (.move rfl) rfl rfl ?_
        refine RL.ev (.loadR ([.slice nx X.nodes.length ncx, .slice fx X.free.length fcx]) sh25 rfl hb_11.row rfl) rfl rfl ?_
        refine RL.call rfl ok14 ((aokB_yes hXok ▸ c_aRight X nx fx ncx fcx w15 hX.now)) rfl rfl ?_
        rintro _ w20 ⟨rfl, s21⟩
        have S := S.trans s21
        have nb := nb.sub s21
        have hI := hI.sub s21
        have hR := hR.sub s21
        have hb_5 := hb_5.sub s21
        have hb_8 := hb_8.sub s21
        have hX := hX.sub s21
        have hb_11 := hb_11.sub s21
        have hb_13 := hb_13.sub s21
        have hB := hB.sub s21
        have hb_15 := hb_15.sub s21
        have hL := hL.sub s21
        refine RL.ev (.not rfl) rfl rfl ?_
        refine RL.ev (.pick_f rfl rfl) rfl rfl ?_
        refine RL.nil (RC.back ?_)
        refine RC.cond_f rfl ?_
        exact RC.skip (fun a ka => ⟨(), ⟨hb_5, hb_8, hb_13, hb_15, nb, hI, hR, hB, hL, S⟩, ka.keep (keep_of (by repeat (first | exact trivial | refine And.intro rfl ?_)))⟩)
  obtain ⟨hb_5, hb_8, hb_13, hb_15, nb, hI, hR, hB, hL, S⟩ := hJ
  refine RC.cutx (α := Unit) (fun _ => [(2, .int .u64 r), (4, .slice pa (l.take 10).length pc), (5, .pointer (some ⟨b_5, 0, none⟩)), (8, .pointer (some ⟨b_8, 0, none⟩)), (15, .pointer (some ⟨b_15, 0, none⟩)), (16, .int .u64 rB), (17, .int .i64 eB), (18, .slice la L.length lc), (19, .int .i64 le)]) (fun _ w22 => Has w22 b_5 [.slice na (fewA A).nodes.length nc, .slice fa (fewA A).free.length fc] 25 ∧ Has w22 b_8 x.cells 35 ∧ Has w22 b_15 [.slice nb' B.nodes.length ncb, .slice fb' B.free.length fcb] 25 ∧ NB (Nadd (Nadd (Nadd (Nadd (Nadd (fun _ => False) b_5) b_8) b_11) b_13) b_15) w22 ∧ Imm (Nadd (Nadd (Nadd (Nadd (Nadd (fun _ => False) b_5) b_8) b_11) b_13) b_15) (fun u => ArR u na fa (fewA A)) w22 ∧ Imm (Nadd (Nadd (Nadd (Nadd (Nadd (fun _ => False) b_5) b_8) b_11) b_13) b_15) (fun u => Sl u pa 1 ((l.take 10).map fun x => [u6 x])) w22 ∧ Imm (Nadd (Nadd (Nadd (Nadd (Nadd (fun _ => False) b_5) b_8) b_11) b_13) b_15) (fun u => ArR u nb' fb' B) w22 ∧ Imm (Nadd (Nadd (Nadd (Nadd (Nadd (fun _ => False) b_5) b_8) b_11) b_13) b_15) (fun u => Sl u la 1 (L.map fun x => [i6 x])) w22 ∧ Sub w w22) ?_ (fun _ w22 hJ => ?_)
  ·
    refine RC.seq ?_
    refine RC.region rfl ?_
    refine RL.ev (.loadR ([.slice na (fewA A).nodes.length nc, .slice fa (fewA A).free.length fc]) sh25 rfl hb_5.row rfl) rfl rfl ?_
    refine RL.ev (.move rfl) rfl rfl ?_
    refine RL.call rfl ok19 (c_r4At (fewA A) na fa nc fc r hr w17 hI.now (by omega)) rfl rfl ?_
    rintro _ w23 ⟨rfl, s24⟩
    have S := S.trans s24
    have hb_5 := hb_5.sub s24
    have hb_8 := hb_8.sub s24
    have hb_13 := hb_13.sub s24
    have hb_15 := hb_15.sub s24
    have nb := nb.sub s24
    have hI := hI.sub s24
    have hR := hR.sub s24
    have hB := hB.sub s24
    have hL := hL.sub s24
    refine RL.ev (.assign rfl) rfl rfl ?_
    refine RL.nil (RC.back ?_)
    refine RC.seq ?_
    refine RC.draw rfl mxo (by kernel_rfl) ?_
    refine RQ.ev (.move rfl) rfl rfl ?_
    refine RQ.ev (.bin rfl rfl rfl) rfl rfl ?_
    refine RQ.ev (.move rfl) rfl rfl ?_
    refine RQ.split 117 rfl (fun h25 => ?_) (fun h25 => ?_)
    ·
      have hno := haf.1 h25
      obtain ⟨hy0, hye⟩ := hgn hno
      have hat := h25
      refine RQ.ev (.move rfl) rfl rfl ?_
      refine RQ.ev (.as (v' := .bool false) (.bin rfl rfl rfl) (congrArg Value.bool (decide_eq_false (fun h => h hye)))) rfl rfl ?_
      refine RQ.ev (.move rfl) rfl rfl ?_
      refine RQ.ev (.loadR (y.cells) sh35 rfl hb_13.row rfl) rfl rfl ?_
      refine RQ.ev (.buildS ze35 pl35 rfl rfl) rfl rfl ?_
      refine RQ.ev (.as (v' := .bool false) (.neS (xs := y.cells) (ys := (bareN 0).cells) fk35 eg35 sh35 rfl rfl rfl rfl rfl) (congrArg Value.bool (by rw [hy0, eqL_cells]; simp))) rfl rfl ?_
      refine RQ.ev (.pick_f rfl rfl) rfl rfl ?_
      refine RQ.ev (.pick_t rfl rfl) rfl rfl ?_
      refine RQ.ev (.move rfl) rfl rfl ?_
      refine RQ.ev (.move rfl) rfl rfl ?_
      refine RQ.ev (.as (v' := .bool false) (.bin rfl rfl rfl) (congrArg Value.bool (decide_eq_false (by omega)))) rfl rfl ?_
      refine RQ.ev (.move rfl) rfl rfl ?_
      refine RQ.off rfl rfl ?_
      refine RQ.off rfl rfl ?_
      refine RQ.off rfl rfl ?_
      refine RQ.off rfl rfl ?_
      refine RQ.off rfl rfl ?_
      refine RQ.off rfl rfl ?_
      refine RQ.off rfl rfl ?_
      refine RQ.off rfl rfl ?_
      refine RQ.off rfl rfl ?_
      refine RQ.off rfl rfl ?_
      refine RQ.off rfl rfl ?_
      refine RQ.ev (.pick_f rfl rfl) rfl rfl ?_
      refine RQ.ev (.pick_f rfl rfl) rfl rfl ?_
      refine RQ.ev (.move rfl) rfl rfl ?_
      refine RQ.call rfl ok12 (fun w' s' => c_alive4 w') rfl rfl ?_
      refine RQ.ev (.not rfl) rfl rfl ?_
      refine RQ.ev (.pick_f rfl rfl) rfl rfl ?_
      refine RQ.nil (fun w26 s27 => RC.back ?_)
      have S := S.trans s27
      have hb_5 := hb_5.sub s27
      have hb_8 := hb_8.sub s27
      have hb_13 := hb_13.sub s27
      have hb_15 := hb_15.sub s27
      have nb := nb.sub s27
      have hI := hI.sub s27
      have hR := hR.sub s27
      have hB := hB.sub s27
      have hL := hL.sub s27
      refine RC.cond_f rfl ?_
      exact RC.skip (fun a ka => ⟨(), ⟨hb_5, hb_8, hb_15, nb, hI, hR, hB, hL, S⟩, ka.keep (keep_of (by repeat (first | exact trivial | refine And.intro rfl ?_)))⟩)
    ·
      obtain ⟨z, hz, haz⟩ := haf.2 h25
      obtain ⟨hy0, hye⟩ := hgs z hz
      have hrng := getA_rng hz
      refine RQ.off rfl rfl ?_
      refine RQ.off rfl rfl ?_
      refine RQ.off rfl rfl ?_
      refine RQ.off rfl rfl ?_
      refine RQ.off rfl rfl ?_
      refine RQ.off rfl rfl ?_
      refine RQ.off rfl rfl ?_
      refine RQ.ev (.pick_f rfl rfl) rfl rfl ?_
      refine RQ.ev (.move rfl) rfl rfl ?_
      refine RQ.ev (.move rfl) rfl rfl ?_
      refine RQ.ev (.as (v' := .bool true) (.bin rfl rfl rfl) (congrArg Value.bool (decide_eq_true (by omega)))) rfl rfl ?_
      refine RQ.ev (.move rfl) rfl rfl ?_
      refine RQ.ev (.move rfl) rfl rfl ?_
      refine RQ.ev (.as (v' := .bool false) (.bin rfl rfl rfl) (congrArg Value.bool (decide_eq_false (fun h => h hye)))) rfl rfl ?_
      refine RQ.ev (.move rfl) rfl rfl ?_
      refine RQ.ev (.loadR (y.cells) sh35 rfl hb_13.row rfl) rfl rfl ?_
      refine RQ.ev (.field0 fo25_0 rfl) rfl rfl ?_
      refine RQ.ev (.load1 sh22 rfl (hb_5.cell rfl)) rfl rfl ?_
      refine RQ.ev (.as (v' := .int .i64 (placeR r)) (.move rfl) (by rw [haz])) rfl rfl ?_
      refine RQ.ev (.indexS sl22 rfl rfl (by omega) (hI.now.nodes.is (i := 0) (by simp only [List.length_map]; omega))) rfl rfl ?_
      refine RQ.ev (.loadR (y.cells) sh35 rfl (hI.now.nodes.rowAt (enc := Node.cells) (show _ = some y from hy0 ▸ (getA_get hz).1)) rfl) rfl rfl ?_
      refine RQ.ev (.as (v' := .bool false) (.neS (xs := y.cells) (ys := y.cells) fk35 eg35 sh35 rfl rfl rfl rfl rfl) (congrArg Value.bool (by rw [eqL_cells]; simp))) rfl rfl ?_
      refine RQ.ev (.pick_f rfl rfl) rfl rfl ?_
      refine RQ.ev (.pick_t rfl rfl) rfl rfl ?_
      refine RQ.ev (.pick_f rfl rfl) rfl rfl ?_
      refine RQ.ev (.move rfl) rfl rfl ?_
      refine RQ.call rfl ok12 (fun w' s' => c_alive4 w') rfl rfl ?_
      refine RQ.ev (.not rfl) rfl rfl ?_
      refine RQ.ev (.pick_f rfl rfl) rfl rfl ?_
      refine RQ.nil (fun w28 s29 => RC.back ?_)
      have S := S.trans s29
      have hb_5 := hb_5.sub s29
      have hb_8 := hb_8.sub s29
      have hb_13 := hb_13.sub s29
      have hb_15 := hb_15.sub s29
      have nb := nb.sub s29
      have hI := hI.sub s29
      have hR := hR.sub s29
      have hB := hB.sub s29
      have hL := hL.sub s29
      refine RC.cond_f rfl ?_
      exact RC.skip (fun a ka => ⟨(), ⟨hb_5, hb_8, hb_15, nb, hI, hR, hB, hL, S⟩, ka.keep (keep_of (by repeat (first | exact trivial | refine And.intro rfl ?_)))⟩)
  obtain ⟨hb_5, hb_8, hb_15, nb, hI, hR, hB, hL, S⟩ := hJ
  refine RC.seq ?_
  refine RC.region rfl ?_
  refine RL.ev (.loadR ([.slice na (fewA A).nodes.length nc, .slice fa (fewA A).free.length fc]) sh25 rfl hb_5.row rfl) rfl rfl ?_
  refine RL.call rfl ok11 (c_r4Right (fewA A) na fa nc fc w22 hI.now) rfl rfl ?_
  rintro _ w30 ⟨rfl, s31⟩
  have S := S.trans s31
  have hb_5 := hb_5.sub s31
  have hb_8 := hb_8.sub s31
  have hb_15 := hb_15.sub s31
  have nb := nb.sub s31
  have hI := hI.sub s31
  have hR := hR.sub s31
  have hB := hB.sub s31
  have hL := hL.sub s31
  refine RL.ev (.assign rfl) rfl rfl ?_
  refine RL.nil (RC.back ?_)
  refine RC.seq ?_
  refine RC.seq ?_
  refine RC.region rfl ?_
  refine RL.ev (.loadR ([.slice na (fewA A).nodes.length nc, .slice fa (fewA A).free.length fc]) sh25 rfl hb_5.row rfl) rfl rfl ?_
  refine RL.call rfl ok14 (c_aRight (fewA A) na fa nc fc w30 hI.now) rfl rfl ?_
  rintro _ w32 ⟨rfl, s33⟩
  have S := S.trans s33
  have hb_5 := hb_5.sub s33
  have hb_8 := hb_8.sub s33
  have hb_15 := hb_15.sub s33
  have nb := nb.sub s33
  have hI := hI.sub s33
  have hR := hR.sub s33
  have hB := hB.sub s33
  have hL := hL.sub s33
  refine RL.ev (.move rfl) rfl rfl ?_
  refine RL.ev (.as (v' := .bool false) (.neB bo4 rfl rfl) (congrArg Value.bool (by simp))) rfl rfl ?_
  refine RL.nil (RC.back ?_)
  refine RC.cond_f rfl ?_
  refine RC.skip (RC.back ?_)
  refine RC.seq ?_
  refine RC.seq ?_
  refine RC.region rfl ?_
  refine RL.ev (.move rfl) rfl rfl ?_
  refine RL.ev (.not rfl) rfl rfl ?_
  refine RL.nil (RC.back ?_)
  refine RC.cond rfl (fun h34 => ?_) (fun h34 => ?_)
  ·
    have hno : ¬ AOk (fewA A) := (fun h => by have h2 := h34; rw [aokB_yes h] at h2; cases h2)
    obtain ⟨hb1, hb2, hb3⟩ := make_bad (fun h => hno h.1) he0 he1
    obtain ⟨hl0, hl1⟩ := hL1 hno
    refine RC.seq ?_
    refine RC.region rfl ?_
    refine RL.ev (.move rfl) rfl rfl ?_
    refine RL.ev (.as (v' := .bool true) (.bin rfl rfl rfl) (congrArg Value.bool (decide_eq_true (hb1)))) rfl rfl ?_
    refine RL.ev (.move rfl) rfl rfl ?_
    refine RL.ev (.move rfl) rfl rfl ?_
    refine RL.ev (.as (v' := .bool true) (.bin rfl rfl rfl) (congrArg Value.bool (decide_eq_true (hl1)))) rfl rfl ?_
    refine RL.ev (.pick_t rfl rfl) rfl rfl ?_
    refine RL.ev (.move rfl) rfl rfl ?_
    refine RL.ev (.field0 fo25_0 rfl) rfl rfl ?_
    refine RL.ev (.load1 sh22 rfl (hb_15.cell rfl)) rfl rfl ?_
    refine RL.ev (.len sl22 rfl) rfl rfl ?_
    refine RL.ev (.as (v' := .bool true) (.bin rfl rfl rfl) (congrArg Value.bool (decide_eq_true (by rw [hb2]; rfl)))) rfl rfl ?_
    refine RL.ev (.pick_t rfl rfl) rfl rfl ?_
    refine RL.ev (.move rfl) rfl rfl ?_
    refine RL.ev (.move rfl) rfl rfl ?_
    refine RL.ev (.as (v' := .bool true) (.bin rfl rfl rfl) (congrArg Value.bool (decide_eq_true (hb3)))) rfl rfl ?_
    refine RL.ev (.pick_t rfl rfl) rfl rfl ?_
    refine RL.ev (.move rfl) rfl rfl ?_
    refine RL.ev (.move rfl) rfl rfl ?_
    refine RL.ev (.len sl23 rfl) rfl rfl ?_
    refine RL.ev (.as (v' := .bool true) (.bin rfl rfl rfl) (congrArg Value.bool (decide_eq_true (by rw [hl0]; rfl)))) rfl rfl ?_
    refine RL.ev (.pick_t rfl rfl) rfl rfl ?_
    refine RL.ev (.assign rfl) rfl rfl ?_
    refine RL.nil (RC.back ?_)
    refine RC.done (rs := [.tmp 10]) (vs := [_]) rfl rfl ⟨rfl, trivial⟩ ?_
    -- end 1
    exact ⟨rfl, S⟩
  ·
    have hok : AOk (fewA A) := (aokB_iff _).1 (by simpa using h34)
    obtain ⟨hLe, hle⟩ := hL0 hok
    refine RC.skip (RC.back ?_)
    refine RC.seq ?_
    refine RC.region rfl ?_
    refine RL.ev (.assign rfl) rfl rfl ?_
    refine RL.nil (RC.back ?_)
    refine RC.seq ?_
    refine RC.seq ?_
    refine RC.region rfl ?_
    refine RL.ev (.move rfl) rfl rfl ?_
    refine RL.ev (.len sl41 rfl) rfl rfl ?_
    refine RL.ev (.move rfl) rfl rfl ?_
    have Sw := S
    have hR0 := hR.now
    have hI0 := hI.now
    obtain ⟨W6, hW6⟩ : ∃ W6, W6 = w32 := ⟨_, rfl⟩
    rw [← hW6] at hR0 hI0 Sw hb_5 hb_8 hb_15 nb hI hR hB hL
    refine RL.nil (RC.back ?_)
    refine RC.block ?_
    refine RC.loop (α := Nat × Option Addr × Nat) (fun z => [(2, .int .u64 r), (4, .slice pa (l.take 10).length pc), (5, .pointer (some ⟨b_5, 0, none⟩)), (8, .pointer (some ⟨b_8, 0, none⟩)), (15, .pointer (some ⟨b_15, 0, none⟩)), (16, .int .u64 rB), (17, .int .i64 eB), (18, .slice la L.length lc), (19, .int .i64 le), (22, .slice z.2.1 ((metK (fewA A) 513 (l.take 10) [] z.1).map fun x => [i6 x]).length z.2.2), (176, .slice pa (l.take 10).length pc), (177, .int .i64 ((l.take 10).length : Int)), (178, .int .i64 (z.1 : Int))]) (fun z w35 => z.1 ≤ (l.take 10).length ∧ Pl (fewA A) (metK (fewA A) 513 (l.take 10) [] z.1) ∧ Own W6.heap.size w35 3 1 (.slice z.2.1 ((metK (fewA A) 513 (l.take 10) [] z.1).map fun x => [i6 x]).length z.2.2) ((metK (fewA A) 513 (l.take 10) [] z.1).map fun x => [i6 x]) ∧ Sub W6 w35 ∧ W6.heap.size ≤ w35.heap.size) (fun z => (l.take 10).length - z.1) (0, none, 0) (keep_of (by repeat (first | exact trivial | refine And.intro rfl ?_))) (⟨Nat.zero_le _, Pl.nil _, Own.nil _ _ _ _, hW6 ▸ Sub.refl _, by rw [hW6]; exact Nat.le_refl _⟩) (fun z w35 hJ => ?_)
    obtain ⟨i, ua, uc⟩ := z; obtain ⟨hi, hp, o, S, szB⟩ := hJ; simp only [] at hi hp o; have q5 := hb_5.sub S
    refine RC.seq ?_
    refine RC.region rfl ?_
    refine RL.ev (.bin rfl rfl rfl) rfl rfl ?_
    refine RL.nil (RC.back ?_)
    refine RC.seq ?_
    refine RC.cond_dec rfl (fun h36 => ?_) (fun h36 => ?_)
    ·
      obtain ⟨k, hk⟩ := getSome (l := l.take 10) (i := i) (by omega)
      refine RC.skip (RC.back ?_)
      refine RC.seq ?_
      refine RC.block ?_
      refine RC.seq ?_
      refine RC.region rfl ?_
      refine RL.ev (.indexS sl41 rfl rfl (by omega) (hR0.is (i := 0) (by simp only [List.length_map]; omega))) rfl rfl ?_
      refine RL.ev (.load1 sh32 rfl ((hR0.sub S).one (enc := u6) (i := i) hk)) rfl rfl ?_
      refine RL.ev (.assign rfl) rfl rfl ?_
      refine RL.nil (RC.back ?_)
      refine RC.region rfl ?_
      refine RL.ev (.loadR ([.slice na (fewA A).nodes.length nc, .slice fa (fewA A).free.length fc]) sh25 rfl q5.row rfl) rfl rfl ?_
      refine RL.ev (.move rfl) rfl rfl ?_
      refine RL.ev (.move rfl) rfl rfl ?_
      refine RL.call rfl ok20 (c_r4Reach W6 W6.heap.size (Nat.le_refl _) (fewA A) na fa nc fc hI0 (by omega) 513 (metK (fewA A) 513 (l.take 10) [] i) ua uc _ k (fun _ => True) w35 rfl (hli' k (List.mem_of_getElem? hk)) (by omega) hp S szB o (fun _ _ => trivial)) rfl rfl ?_
      rintro vr w37 ⟨a2, c2, hr5, o2, S, szB2, _⟩
      rw [← metK_succ hk] at hr5 o2
      subst hr5
      have hv := (metK_pl (n := 0) hk hp (Nat.zero_le _)).1
      refine RL.ev (.assign rfl) rfl rfl ?_
      refine RL.nil (RC.back ?_)
      refine RC.region rfl ?_
      refine RL.ev (.as (.bin rfl rfl rfl) (wi64 (y := ((i + 1 : Nat) : Int)) (by omega) (by omega))) rfl rfl ?_
      refine RL.ev (.move rfl) rfl rfl ?_
      exact RL.nil (fun a ka => ⟨(i + 1, a2, c2), ⟨by omega, hv, o2, S, szB2⟩, by omega, ka.keep (keep_of (by repeat (first | exact trivial | refine And.intro rfl ?_)))⟩)
    ·
      obtain rfl : i = (l.take 10).length := (by omega)
      have e0 : metK (fewA A) 513 (l.take 10) [] (l.take 10).length = reachA (fewA A) (l.take 10) := metK_all _ _ _ _ rfl
      have hb_5 := hb_5.sub S
      have hb_8 := hb_8.sub S
      have hb_15 := hb_15.sub S
      have nb := nb.sub S
      have hI := hI.sub S
      have hB := hB.sub S
      have hL := hL.sub S
      have hM := o.sl.1
      have S := Sw.trans S
      refine RC.exit rfl (RC.back ?_)
      refine RC.seq ?_
      refine RC.seq ?_
      refine RC.region rfl ?_
      refine RL.ev (.move rfl) rfl rfl ?_
      refine RL.ev (.as (v' := .bool false) (.bin rfl rfl rfl) (congrArg Value.bool (decide_eq_false (fun h => h hle)))) rfl rfl ?_
      refine RL.ev (.move rfl) rfl rfl ?_
      refine RL.ev (.move rfl) rfl rfl ?_
      refine RL.ev (.move rfl) rfl rfl ?_
      refine RL.call rfl ok21 (c_sameInts L (metK (fewA A) 513 (l.take 10) [] (l.take 10).length) la ua lc uc L.length _ rfl (List.length_map _) w35 hL.now hM (by have := hLp.len; omega)) rfl rfl ?_
      rintro _ w39 ⟨rfl, s40⟩
      have S := S.trans s40
      have hb_5 := hb_5.sub s40
      have hb_8 := hb_8.sub s40
      have hb_15 := hb_15.sub s40
      have nb := nb.sub s40
      have hI := hI.sub s40
      have hB := hB.sub s40
      have hL := hL.sub s40
      refine RL.ev (.as (v' := .bool false) (.not rfl) (congrArg Value.bool (by rw [decide_eq_true (hLe.trans e0.symm)]; rfl))) rfl rfl ?_
      refine RL.ev (.pick_f rfl rfl) rfl rfl ?_
      refine RL.nil (RC.back ?_)
      refine RC.cond_f rfl ?_
      refine RC.skip (RC.back ?_)
      refine RC.seq ?_
      refine RC.region rfl ?_
      refine RL.ev (.field0 fo35_1 rfl) rfl rfl ?_
      refine RL.store sh3 rfl rfl rfl hb_8 (by exact Nat.le_of_ble_eq_true rfl) (by rfl) rfl (fun w41 z41 hb_8 a41 => ?_)
      have S := S.upd a41 ge_8
      have hb_5 := hb_5.upd a41 n_5__8
      have hb_15 := hb_15.upd a41 n_8__15.symm
      have nb := nb.upd a41
      have hI := hI.upd a41 (.inl (.inl (.inl (.inr rfl))))
      have hB := hB.upd a41 (.inl (.inl (.inl (.inr rfl))))
      have hL := hL.upd a41 (.inl (.inl (.inl (.inr rfl))))
      have hb_8 : Has w41 b_8 ((x0 x).cells) _ := hb_8
      refine RL.nil (RC.back ?_)
      refine RC.seq ?_
      refine RC.seq ?_
      refine RC.region rfl ?_
      refine RL.ev (.field0 fo35_0 rfl) rfl rfl ?_
      refine RL.ev (.load1 sh3 rfl (hb_8.cell rfl)) rfl rfl ?_
      refine RL.ev (.bin rfl rfl rfl) rfl rfl ?_
      refine RL.ev (.move rfl) rfl rfl ?_
      refine RL.split 199 rfl (fun h42 => ?_) (fun h42 => ?_)
      ·
        have hlow := h42
        obtain ⟨hb1, hb2, hb3⟩ := make_bad (fun h => by have := h.2.1; omega) he0 he1
        refine RL.off rfl rfl ?_
        refine RL.off rfl rfl ?_
        refine RL.off rfl rfl ?_
        refine RL.ev (.pick_t rfl rfl) rfl rfl ?_
        refine RL.ev (.move rfl) rfl rfl ?_
        refine RL.off rfl rfl ?_
        refine RL.off rfl rfl ?_
        refine RL.off rfl rfl ?_
        refine RL.ev (.pick_t rfl rfl) rfl rfl ?_
        refine RL.nil (RC.back ?_)
        refine RC.cond_t rfl ?_
        refine RC.seq ?_
        refine RC.region rfl ?_
        refine RL.ev (.move rfl) rfl rfl ?_
        refine RL.ev (.as (v' := .bool true) (.bin rfl rfl rfl) (congrArg Value.bool (decide_eq_true (hb1)))) rfl rfl ?_
        refine RL.ev (.move rfl) rfl rfl ?_
        refine RL.ev (.field0 fo25_0 rfl) rfl rfl ?_
        refine RL.ev (.load1 sh22 rfl (hb_15.cell rfl)) rfl rfl ?_
        refine RL.ev (.len sl22 rfl) rfl rfl ?_
        refine RL.ev (.as (v' := .bool true) (.bin rfl rfl rfl) (congrArg Value.bool (decide_eq_true (by rw [hb2]; rfl)))) rfl rfl ?_
        refine RL.ev (.pick_t rfl rfl) rfl rfl ?_
        refine RL.ev (.move rfl) rfl rfl ?_
        refine RL.ev (.move rfl) rfl rfl ?_
        refine RL.ev (.as (v' := .bool true) (.bin rfl rfl rfl) (congrArg Value.bool (decide_eq_true (hb3)))) rfl rfl ?_
        refine RL.ev (.pick_t rfl rfl) rfl rfl ?_
        refine RL.ev (.assign rfl) rfl rfl ?_
        refine RL.nil (RC.back ?_)
        refine RC.done (rs := [.tmp 10]) (vs := [_]) rfl rfl ⟨rfl, trivial⟩ ?_
        -- end 2
        exact ⟨rfl, S⟩
      ·
        refine RL.ev (.field0 fo35_0 rfl) rfl rfl ?_
        refine RL.ev (.load1 sh3 rfl (hb_8.cell rfl)) rfl rfl ?_
        refine RL.ev (.bin rfl rfl rfl) rfl rfl ?_
        refine RL.ev (.pick_f rfl rfl) rfl rfl ?_
        refine RL.ev (.move rfl) rfl rfl ?_
        refine RL.split 204 rfl (fun h43 => ?_) (fun h43 => ?_)
        ·
          have hlow := h43
          obtain ⟨hb1, hb2, hb3⟩ := make_bad (fun h => by have := h.2.2.1; omega) he0 he1
          refine RL.off rfl rfl ?_
          refine RL.off rfl rfl ?_
          refine RL.off rfl rfl ?_
          refine RL.ev (.pick_t rfl rfl) rfl rfl ?_
          refine RL.nil (RC.back ?_)
          refine RC.cond_t rfl ?_
          refine RC.seq ?_
          refine RC.region rfl ?_
          refine RL.ev (.move rfl) rfl rfl ?_
          refine RL.ev (.as (v' := .bool true) (.bin rfl rfl rfl) (congrArg Value.bool (decide_eq_true (hb1)))) rfl rfl ?_
          refine RL.ev (.move rfl) rfl rfl ?_
          refine RL.ev (.field0 fo25_0 rfl) rfl rfl ?_
          refine RL.ev (.load1 sh22 rfl (hb_15.cell rfl)) rfl rfl ?_
          refine RL.ev (.len sl22 rfl) rfl rfl ?_
          refine RL.ev (.as (v' := .bool true) (.bin rfl rfl rfl) (congrArg Value.bool (decide_eq_true (by rw [hb2]; rfl)))) rfl rfl ?_
          refine RL.ev (.pick_t rfl rfl) rfl rfl ?_
          refine RL.ev (.move rfl) rfl rfl ?_
          refine RL.ev (.move rfl) rfl rfl ?_
          refine RL.ev (.as (v' := .bool true) (.bin rfl rfl rfl) (congrArg Value.bool (decide_eq_true (hb3)))) rfl rfl ?_
          refine RL.ev (.pick_t rfl rfl) rfl rfl ?_
          refine RL.ev (.assign rfl) rfl rfl ?_
          refine RL.nil (RC.back ?_)
          refine RC.done (rs := [.tmp 10]) (vs := [_]) rfl rfl ⟨rfl, trivial⟩ ?_
          -- end 3
          exact ⟨rfl, S⟩
        ·
          refine RL.ev (.loadR ((x0 x).cells) sh35 rfl hb_8.row rfl) rfl rfl ?_
          refine RL.call rfl ok22 (c_r4Well (x0 x) (x0_ok hx) w41) rfl rfl ?_
          rintro _ w44 ⟨rfl, s45⟩
          have S := S.trans s45
          have hb_5 := hb_5.sub s45
          have hb_8 := hb_8.sub s45
          have hb_15 := hb_15.sub s45
          have nb := nb.sub s45
          have hI := hI.sub s45
          have hB := hB.sub s45
          have hL := hL.sub s45
          refine RL.ev (.not rfl) rfl rfl ?_
          refine RL.ev (.pick_f rfl rfl) rfl rfl ?_
          refine RL.nil (RC.back ?_)
          refine RC.cond rfl (fun h46 => ?_) (fun h46 => ?_)
          ·
            have hlow := h46
            obtain ⟨hb1, hb2, hb3⟩ := make_bad (fun h => by have h2 := hlow; rw [h.2.2.2] at h2; cases h2) he0 he1
            refine RC.seq ?_
            refine RC.region rfl ?_
            refine RL.ev (.move rfl) rfl rfl ?_
            refine RL.ev (.as (v' := .bool true) (.bin rfl rfl rfl) (congrArg Value.bool (decide_eq_true (hb1)))) rfl rfl ?_
            refine RL.ev (.move rfl) rfl rfl ?_
            refine RL.ev (.field0 fo25_0 rfl) rfl rfl ?_
            refine RL.ev (.load1 sh22 rfl (hb_15.cell rfl)) rfl rfl ?_
            refine RL.ev (.len sl22 rfl) rfl rfl ?_
            refine RL.ev (.as (v' := .bool true) (.bin rfl rfl rfl) (congrArg Value.bool (decide_eq_true (by rw [hb2]; rfl)))) rfl rfl ?_
            refine RL.ev (.pick_t rfl rfl) rfl rfl ?_
            refine RL.ev (.move rfl) rfl rfl ?_
            refine RL.ev (.move rfl) rfl rfl ?_
            refine RL.ev (.as (v' := .bool true) (.bin rfl rfl rfl) (congrArg Value.bool (decide_eq_true (hb3)))) rfl rfl ?_
            refine RL.ev (.pick_t rfl rfl) rfl rfl ?_
            refine RL.ev (.assign rfl) rfl rfl ?_
            refine RL.nil (RC.back ?_)
            refine RC.done (rs := [.tmp 10]) (vs := [_]) rfl rfl ⟨rfl, trivial⟩ ?_
            -- end 4
            exact ⟨rfl, S⟩
          ·
            have hm : mayMake (fewA A) x := ⟨hok, by omega, by omega, by simpa using h46⟩
            refine RC.skip (RC.back ?_)
            refine RC.seq ?_
            refine RC.region rfl ?_
            refine RL.ev (.field0 fo25_1 rfl) rfl rfl ?_
            refine RL.ev (.load1 sh23 rfl (hb_5.cell rfl)) rfl rfl ?_
            refine RL.ev (.len sl23 rfl) rfl rfl ?_
            refine RL.ev (.as (.bin rfl rfl rfl) (wi64 (y := ((fewA A).free.length : Int) - 1) (by rfl) (by omega))) rfl rfl ?_
            refine RL.ev (.assign rfl) rfl rfl ?_
            refine RL.nil (RC.back ?_)
            refine RC.seq ?_
            refine RC.seq ?_
            refine RC.region rfl ?_
            refine RL.ev (.move rfl) rfl rfl ?_
            refine RL.ev (.bin rfl rfl rfl) rfl rfl ?_
            refine RL.nil (RC.back ?_)
            refine RC.cond_dec rfl (fun h47 => ?_) (fun h47 => ?_)
            ·
              obtain ⟨hb1, hb2, hb3⟩ := make_empty hm (by omega) he0 he1
              refine RC.seq ?_
              refine RC.region rfl ?_
              refine RL.ev (.move rfl) rfl rfl ?_
              refine RL.ev (.as (v' := .bool true) (.bin rfl rfl rfl) (congrArg Value.bool (decide_eq_true (hb1)))) rfl rfl ?_
              refine RL.ev (.move rfl) rfl rfl ?_
              refine RL.ev (.field0 fo25_0 rfl) rfl rfl ?_
              refine RL.ev (.load1 sh22 rfl (hb_15.cell rfl)) rfl rfl ?_
              refine RL.ev (.len sl22 rfl) rfl rfl ?_
              refine RL.ev (.as (v' := .bool true) (.bin rfl rfl rfl) (congrArg Value.bool (decide_eq_true (by rw [hb2]; rfl)))) rfl rfl ?_
              refine RL.ev (.pick_t rfl rfl) rfl rfl ?_
              refine RL.ev (.move rfl) rfl rfl ?_
              refine RL.ev (.move rfl) rfl rfl ?_
              refine RL.ev (.as (v' := .bool true) (.bin rfl rfl rfl) (congrArg Value.bool (decide_eq_true (hb3)))) rfl rfl ?_
              refine RL.ev (.pick_t rfl rfl) rfl rfl ?_
              refine RL.ev (.assign rfl) rfl rfl ?_
              refine RL.nil (RC.back ?_)
              refine RC.done (rs := [.tmp 10]) (vs := [_]) rfl rfl ⟨rfl, trivial⟩ ?_
              -- end 5
              exact ⟨rfl, S⟩
            ·
              have hpos : 0 < (fewA A).free.length := (by omega)
              obtain ⟨hb1, hb2, hb3⟩ := make_good hm hpos he0 he1
              have hla := lastAt_in hok hpos
              have hgr := genAt_rng hok hla
              obtain ⟨q, hq⟩ := getSome (l := (fewA A).nodes) (i := (lastAt (fewA A)).toNat) (by omega)
              have hgq := genAt_get hq
              refine RC.skip (RC.back ?_)
              refine RC.seq ?_
              refine RC.region rfl ?_
              refine RL.ev (.field0 fo25_1 rfl) rfl rfl ?_
              refine RL.ev (.load1 sh23 rfl (hb_5.cell rfl)) rfl rfl ?_
              refine RL.ev (.as (v' := .int .i64 ((((fewA A).free.length - 1 : Nat)) : Int)) (.move rfl) (by rw [show ((((fewA A).free.length - 1 : Nat)) : Int) = ((fewA A).free.length : Int) - 1 by omega])) rfl rfl ?_
              refine RL.ev (.indexS sl23 rfl rfl (by omega) (hI.now.free.is (i := 0) (by simp only [List.length_map]; omega))) rfl rfl ?_
              refine RL.ev (.load1 sh3 rfl (hI.now.free.one (enc := i6) (i := (fewA A).free.length - 1) (lastAt_get hpos))) rfl rfl ?_
              refine RL.ev (.assign rfl) rfl rfl ?_
              refine RL.nil (RC.back ?_)
              refine RC.seq ?_
              refine RC.region rfl ?_
              refine RL.ev (.field0 fo25_0 rfl) rfl rfl ?_
              refine RL.ev (.load1 sh22 rfl (hb_5.cell rfl)) rfl rfl ?_
              refine RL.ev (.move rfl) rfl rfl ?_
              refine RL.ev (.indexS sl22 rfl rfl (by omega) (hI.now.nodes.is (i := 0) (by simp only [List.length_map]; omega))) rfl rfl ?_
              refine RL.ev (.fieldA fo35_1 rfl) rfl rfl ?_
              refine RL.ev (.as (v' := .int .i64 (genAt (fewA A) (lastAt (fewA A)))) (.load1 sh3 rfl (hI.now.nodes.cell (enc := Node.cells) (j := 1) hq rfl)) (by rw [hgq])) rfl rfl ?_
              refine RL.ev (.field0 fo35_1 rfl) rfl rfl ?_
              refine RL.store sh3 rfl rfl rfl hb_8 (by exact Nat.le_of_ble_eq_true rfl) (by rfl) rfl (fun w48 z48 hb_8 a48 => ?_)
              have S := S.upd a48 ge_8
              have hb_5 := hb_5.upd a48 n_5__8
              have hb_15 := hb_15.upd a48 n_8__15.symm
              have nb := nb.upd a48
              have hI := hI.upd a48 (.inl (.inl (.inl (.inr rfl))))
              have hB := hB.upd a48 (.inl (.inl (.inl (.inr rfl))))
              have hL := hL.upd a48 (.inl (.inl (.inl (.inr rfl))))
              have hb_8 : Has w48 b_8 ((madeN (fewA A) x).cells) _ := hb_8
              obtain ⟨W9, S9, hB9⟩ : ∃ W9, Sub W9 w48 ∧ ArR W9 nb' fb' B := ⟨_, Sub.refl _, hB.now⟩
              obtain ⟨E, hE⟩ : ∃ E, E = w48.heap.size := ⟨_, rfl⟩
              have lt5 := hb_5.lt
              have lt8 := hb_8.lt
              have lt15 := hb_15.lt
              have szS := S.size
              have szS9 := S9.size
              rw [← hE] at lt5 lt8 lt15 szS szS9
              refine RL.nil (RC.back ?_)
              refine RC.cutx (α := Nat × (Option Addr × Nat)) (fun m_ => [(8, .pointer (some ⟨b_8, 0, none⟩)), (15, .pointer (some ⟨b_15, 0, none⟩)), (16, .int .u64 rB), (17, .int .i64 eB), (26, .int .i64 (lastAt (fewA A))), (27, .pointer (some ⟨m_.1, 0, none⟩))]) (fun m_ w49 => b_8 ≠ m_.1 ∧ b_15 ≠ m_.1 ∧ E ≤ m_.1 ∧ Has w49 b_8 (madeN (fewA A) x).cells 35 ∧ Has w49 b_15 [.slice nb' B.nodes.length ncb, .slice fb' B.free.length fcb] 25 ∧ Has w49 m_.1 [.slice m_.2.1 ((fewA A).nodes.map Node.cells).length m_.2.2, .slice fa ((fewA A).free.length - 1) fc] 25 ∧ Own E w49 35 16 (.slice m_.2.1 ((fewA A).nodes.map Node.cells).length m_.2.2) ((fewA A).nodes.map Node.cells) ∧ (∀ k, ob (.slice m_.2.1 ((fewA A).nodes.map Node.cells).length m_.2.2) = some k → k ≠ m_.1) ∧ Sub W9 w49 ∧ Sub w w49) ?_ (fun m_ w49 hJ => ?_)
              ·
                refine RC.drawD (fun k => False) [10] w48.heap.size 11 rfl rfl mxo (fun w50 s51 => ?_)
                have hNN : ∀ k, ((False) ∨ w48.heap.size ≤ k) → w.heap.size ≤ k := fun k e => e.elim (fun e => e.elim) (fun e => Nat.le_trans S.size e)
                have ent_S := S.size
                have ent_S9 := S9.size
                have hN0 : ∀ k, w48.heap.size ≤ k → w.heap.size ≤ k := fun k e => Nat.le_trans S.size e
                have ltD_b_5 := hb_5.lt
                have ltD_b_8 := hb_8.lt
                have ltD_b_15 := hb_15.lt
                have szD := Nat.le_refl w48.heap.size
                have S := S.trans s51
                have hb_5 := hb_5.sub s51
                have hb_8 := hb_8.sub s51
                have hb_15 := hb_15.sub s51
                have S9 := S9.trans s51
                have szD := Nat.le_trans szD s51.size
                refine RD.take 1 rfl (by kernel_rfl) (by kernel_rfl) (by kernel_rfl) (fun w' s' => .field0 fo25_0 rfl) rfl rfl ?_
                refine RD.take 2 rfl (by kernel_rfl) (by kernel_rfl) (by kernel_rfl) (fun w' s' => .load1 sh22 rfl ((hb_5.step s' (fun e => e.elim (fun e => e.elim) (fun e => Nat.not_le.2 ltD_b_5 e))).cell rfl)) rfl rfl ?_
                refine RD.take 4 rfl (by kernel_rfl) (by kernel_rfl) (by kernel_rfl) (fun w' s' => .field0 fo25_1 rfl) rfl rfl ?_
                refine RD.take 5 rfl (by kernel_rfl) (by kernel_rfl) (by kernel_rfl) (fun w' s' => .load1 sh23 rfl ((hb_5.step s' (fun e => e.elim (fun e => e.elim) (fun e => Nat.not_le.2 ltD_b_5 e))).cell rfl)) rfl rfl ?_
                refine RD.take 6 rfl (by kernel_rfl) (by kernel_rfl) (by kernel_rfl) (fun w' s' => .move rfl) rfl rfl ?_
                refine RD.take 7 rfl (by kernel_rfl) (by kernel_rfl) (by kernel_rfl) (fun w' s' => .as (v' := .slice fa ((fewA A).free.length - 1) fc) (.sliceHi sl23 rfl rfl (by omega)) (by rw [show (((fewA A).free.length : Int) - 1).toNat = (fewA A).free.length - 1 by omega])) rfl rfl ?_
                refine RD.all [0, 9] (by kernel_rfl) rfl (RDs.cons rfl ?_ (RDs.cons rfl ?_ (RDs.nil)))
                ·
                  refine RL.buildSlice0 sl22 rfl rfl (fun b_251 w_251 e_251 z_251 hb_251 s_251 => ?_)
                  have fr_b_251 : w48.heap.size ≤ b_251 := by rw [e_251]; exact szD
                  have ge_251 := S.le e_251
                  have n_5__251 := hb_5.ne e_251
                  have n_8__251 := hb_8.ne e_251
                  have n_15__251 := hb_15.ne e_251
                  have S := S.trans s_251
                  have hb_5 := hb_5.sub s_251
                  have hb_8 := hb_8.sub s_251
                  have hb_15 := hb_15.sub s_251
                  have geS9_251 := S9.le e_251
                  have S9 := S9.trans s_251
                  have szD := Nat.le_trans szD s_251.size
                  refine RD.back s_251.agr ?_
                  refine RD.all [3, 9] (by kernel_rfl) rfl (RDs.cons rfl ?_ (RDs.cons rfl ?_ (RDs.nil)))
                  ·
                    have sz_254 := S.size
                    have ltb_5_254 := hb_5.lt
                    have ltb_8_254 := hb_8.lt
                    have ltb_15_254 := hb_15.lt
                    have szS9_254 := S9.size
                    have ltb_251_254 := hb_251.lt
                    refine RL.append2 (base := E) (rows := []) (news := (fewA A).nodes.map Node.cells) sl22 ze35 rfl rfl rfl rfl (.inl (Own.lit0 hb_251 (by omega))) (hAn.sub S) (by simp only [List.length_map]) (by intro r hr; obtain ⟨x, _, rfl⟩ := List.mem_map.1 hr; rfl) (by rw [List.all_eq_true]; intro r hr; obtain ⟨x, _, rfl⟩ := List.mem_map.1 hr; rfl) (by (try simp only [List.length_map, List.length_nil, List.length_append, List.length_cons]); omega) (by (try simp only [List.length_map, List.length_nil, List.length_append, List.length_cons]); omega) (by omega) rfl rfl (fun v_254 w_254 hc_254 ho_254 ag_254 ob_254 => ?_)
                    have o254 := ho_254 (.inr (Own.lit0 hb_251 (by omega)))
                    have d_o254_b_5 := obNe ob_254 (fun k hk e => n_5__251.symm ((obLit hk).trans e)) hb_5.lt
                    have d_o254_b_8 := obNe ob_254 (fun k hk e => n_8__251.symm ((obLit hk).trans e)) hb_8.lt
                    have d_o254_b_15 := obNe ob_254 (fun k hk e => n_15__251.symm ((obLit hk).trans e)) hb_15.lt
                    have S := S.agrN ag_254 (fun k e => Nat.le_trans (by omega) e.2)
                    have hb_5 := hb_5.step ag_254 (fun e => n_5__251.symm (obLit e.1))
                    have hb_8 := hb_8.step ag_254 (fun e => n_8__251.symm (obLit e.1))
                    have hb_15 := hb_15.step ag_254 (fun e => n_15__251.symm (obLit e.1))
                    have S9 := S9.agrN ag_254 (fun k e => Nat.le_trans (by omega) e.2)
                    have szD := Nat.le_trans szD ag_254.size
                    obtain ⟨a_254, c_254, rfl, k_254⟩ := o254.form
                    refine RD.back (ag_254.mono fun k _ e => by have := e.2; omega) ?_
                    refine RD.take 8 rfl (by kernel_rfl) (by kernel_rfl) (by kernel_rfl) (fun w' s' => .buildS ze25 pl25 rfl rfl) rfl rfl ?_
                    refine RD.all [9] (by kernel_rfl) rfl (RDs.cons rfl ?_ (RDs.nil))
                    refine RL.alloc ze25 rfl rfl (fun b_27 w_27 e_27 z_27 hb_27 s_27 => ?_)
                    have fr_b_27 : w48.heap.size ≤ b_27 := by rw [e_27]; exact szD
                    have ge_27 := S.le e_27
                    have n_5__27 := hb_5.ne e_27
                    have n_8__27 := hb_8.ne e_27
                    have n_15__27 := hb_15.ne e_27
                    have d_o254_b_27 := o254.neNew e_27
                    have S := S.trans s_27
                    have hb_5 := hb_5.sub s_27
                    have hb_8 := hb_8.sub s_27
                    have hb_15 := hb_15.sub s_27
                    have geS9_27 := S9.le e_27
                    have S9 := S9.trans s_27
                    have szD := Nat.le_trans szD s_27.size
                    have o254 := o254.sub s_27
                    refine RD.back s_27.agr ?_
                    refine RD.all [10] (by kernel_rfl) rfl (RDs.cons rfl ?_ (RDs.nil))
                    refine RL.store sh25 rfl rfl rfl hb_27 (by exact Nat.le_of_ble_eq_true rfl) (by rfl) rfl (fun w52 z52 hb_27 a52 => ?_)
                    have S := S.upd a52 ge_27
                    have hb_5 := hb_5.upd a52 n_5__27
                    have hb_8 := hb_8.upd a52 n_8__27
                    have hb_15 := hb_15.upd a52 n_15__27
                    have S9 := S9.upd a52 geS9_27
                    have szD := Nat.le_trans szD a52.size
                    have o254 := o254.updD a52 d_o254_b_27
                    refine RD.backW rfl (a52.mono fun k _ e => e ▸ (.inr fr_b_27)) ?_
                    exact RD.done (by kernel_rfl) (fun a ka => ⟨(b_27, (a_254, c_254)), ⟨n_8__27, n_15__27, by omega, hb_8, hb_15, hb_27, o254, d_o254_b_27, S9, S⟩, ka.keep (keep_of (by repeat (first | exact trivial | refine And.intro rfl ?_)))⟩)
                  ·
                    refine RL.alloc ze25 rfl rfl (fun b_27 w_27 e_27 z_27 hb_27 s_27 => ?_)
                    have fr_b_27 : w48.heap.size ≤ b_27 := by rw [e_27]; exact szD
                    have ge_27 := S.le e_27
                    have n_5__27 := hb_5.ne e_27
                    have n_8__27 := hb_8.ne e_27
                    have n_15__27 := hb_15.ne e_27
                    have n_251__27 := hb_251.ne e_27
                    have S := S.trans s_27
                    have hb_5 := hb_5.sub s_27
                    have hb_8 := hb_8.sub s_27
                    have hb_15 := hb_15.sub s_27
                    have geS9_27 := S9.le e_27
                    have S9 := S9.trans s_27
                    have szD := Nat.le_trans szD s_27.size
                    have hb_251 := hb_251.sub s_27
                    refine RD.back s_27.agr ?_
                    refine RD.all [3] (by kernel_rfl) rfl (RDs.cons rfl ?_ (RDs.nil))
                    have sz_254 := S.size
                    have ltb_5_254 := hb_5.lt
                    have ltb_8_254 := hb_8.lt
                    have ltb_15_254 := hb_15.lt
                    have szS9_254 := S9.size
                    have ltb_251_254 := hb_251.lt
                    have ltb_27_254 := hb_27.lt
                    refine RL.append2 (base := E) (rows := []) (news := (fewA A).nodes.map Node.cells) sl22 ze35 rfl rfl rfl rfl (.inl (Own.lit0 hb_251 (by omega))) (hAn.sub S) (by simp only [List.length_map]) (by intro r hr; obtain ⟨x, _, rfl⟩ := List.mem_map.1 hr; rfl) (by rw [List.all_eq_true]; intro r hr; obtain ⟨x, _, rfl⟩ := List.mem_map.1 hr; rfl) (by (try simp only [List.length_map, List.length_nil, List.length_append, List.length_cons]); omega) (by (try simp only [List.length_map, List.length_nil, List.length_append, List.length_cons]); omega) (by omega) rfl rfl (fun v_254 w_254 hc_254 ho_254 ag_254 ob_254 => ?_)
                    have o254 := ho_254 (.inr (Own.lit0 hb_251 (by omega)))
                    have d_o254_b_5 := obNe ob_254 (fun k hk e => n_5__251.symm ((obLit hk).trans e)) hb_5.lt
                    have d_o254_b_8 := obNe ob_254 (fun k hk e => n_8__251.symm ((obLit hk).trans e)) hb_8.lt
                    have d_o254_b_15 := obNe ob_254 (fun k hk e => n_15__251.symm ((obLit hk).trans e)) hb_15.lt
                    have d_o254_b_27 := obNe ob_254 (fun k hk e => n_251__27 ((obLit hk).trans e)) hb_27.lt
                    have S := S.agrN ag_254 (fun k e => Nat.le_trans (by omega) e.2)
                    have hb_5 := hb_5.step ag_254 (fun e => n_5__251.symm (obLit e.1))
                    have hb_8 := hb_8.step ag_254 (fun e => n_8__251.symm (obLit e.1))
                    have hb_15 := hb_15.step ag_254 (fun e => n_15__251.symm (obLit e.1))
                    have S9 := S9.agrN ag_254 (fun k e => Nat.le_trans (by omega) e.2)
                    have szD := Nat.le_trans szD ag_254.size
                    have hb_27 := hb_27.step ag_254 (fun e => n_251__27 (obLit e.1))
                    obtain ⟨a_254, c_254, rfl, k_254⟩ := o254.form
                    refine RD.back (ag_254.mono fun k _ e => by have := e.2; omega) ?_
                    refine RD.take 8 rfl (by kernel_rfl) (by kernel_rfl) (by kernel_rfl) (fun w' s' => .buildS ze25 pl25 rfl rfl) rfl rfl ?_
                    refine RD.all [10] (by kernel_rfl) rfl (RDs.cons rfl ?_ (RDs.nil))
                    refine RL.store sh25 rfl rfl rfl hb_27 (by exact Nat.le_of_ble_eq_true rfl) (by rfl) rfl (fun w53 z53 hb_27 a53 => ?_)
                    have S := S.upd a53 ge_27
                    have hb_5 := hb_5.upd a53 n_5__27
                    have hb_8 := hb_8.upd a53 n_8__27
                    have hb_15 := hb_15.upd a53 n_15__27
                    have S9 := S9.upd a53 geS9_27
                    have szD := Nat.le_trans szD a53.size
                    have o254 := o254.updD a53 d_o254_b_27
                    refine RD.backW rfl (a53.mono fun k _ e => e ▸ (.inr fr_b_27)) ?_
                    exact RD.done (by kernel_rfl) (fun a ka => ⟨(b_27, (a_254, c_254)), ⟨n_8__27, n_15__27, by omega, hb_8, hb_15, hb_27, o254, d_o254_b_27, S9, S⟩, ka.keep (keep_of (by repeat (first | exact trivial | refine And.intro rfl ?_)))⟩)
                ·
                  refine RL.alloc ze25 rfl rfl (fun b_27 w_27 e_27 z_27 hb_27 s_27 => ?_)
                  have fr_b_27 : w48.heap.size ≤ b_27 := by rw [e_27]; exact szD
                  have ge_27 := S.le e_27
                  have n_5__27 := hb_5.ne e_27
                  have n_8__27 := hb_8.ne e_27
                  have n_15__27 := hb_15.ne e_27
                  have S := S.trans s_27
                  have hb_5 := hb_5.sub s_27
                  have hb_8 := hb_8.sub s_27
                  have hb_15 := hb_15.sub s_27
                  have geS9_27 := S9.le e_27
                  have S9 := S9.trans s_27
                  have szD := Nat.le_trans szD s_27.size
                  refine RD.back s_27.agr ?_
                  refine RD.all [0] (by kernel_rfl) rfl (RDs.cons rfl ?_ (RDs.nil))
                  refine RL.buildSlice0 sl22 rfl rfl (fun b_251 w_251 e_251 z_251 hb_251 s_251 => ?_)
                  have fr_b_251 : w48.heap.size ≤ b_251 := by rw [e_251]; exact szD
                  have ge_251 := S.le e_251
                  have n_5__251 := hb_5.ne e_251
                  have n_8__251 := hb_8.ne e_251
                  have n_15__251 := hb_15.ne e_251
                  have n_27__251 := hb_27.ne e_251
                  have S := S.trans s_251
                  have hb_5 := hb_5.sub s_251
                  have hb_8 := hb_8.sub s_251
                  have hb_15 := hb_15.sub s_251
                  have geS9_251 := S9.le e_251
                  have S9 := S9.trans s_251
                  have szD := Nat.le_trans szD s_251.size
                  have hb_27 := hb_27.sub s_251
                  refine RD.back s_251.agr ?_
                  refine RD.all [3] (by kernel_rfl) rfl (RDs.cons rfl ?_ (RDs.nil))
                  have sz_254 := S.size
                  have ltb_5_254 := hb_5.lt
                  have ltb_8_254 := hb_8.lt
                  have ltb_15_254 := hb_15.lt
                  have szS9_254 := S9.size
                  have ltb_27_254 := hb_27.lt
                  have ltb_251_254 := hb_251.lt
                  refine RL.append2 (base := E) (rows := []) (news := (fewA A).nodes.map Node.cells) sl22 ze35 rfl rfl rfl rfl (.inl (Own.lit0 hb_251 (by omega))) (hAn.sub S) (by simp only [List.length_map]) (by intro r hr; obtain ⟨x, _, rfl⟩ := List.mem_map.1 hr; rfl) (by rw [List.all_eq_true]; intro r hr; obtain ⟨x, _, rfl⟩ := List.mem_map.1 hr; rfl) (by (try simp only [List.length_map, List.length_nil, List.length_append, List.length_cons]); omega) (by (try simp only [List.length_map, List.length_nil, List.length_append, List.length_cons]); omega) (by omega) rfl rfl (fun v_254 w_254 hc_254 ho_254 ag_254 ob_254 => ?_)
                  have o254 := ho_254 (.inr (Own.lit0 hb_251 (by omega)))
                  have d_o254_b_5 := obNe ob_254 (fun k hk e => n_5__251.symm ((obLit hk).trans e)) hb_5.lt
                  have d_o254_b_8 := obNe ob_254 (fun k hk e => n_8__251.symm ((obLit hk).trans e)) hb_8.lt
                  have d_o254_b_15 := obNe ob_254 (fun k hk e => n_15__251.symm ((obLit hk).trans e)) hb_15.lt
                  have d_o254_b_27 := obNe ob_254 (fun k hk e => n_27__251.symm ((obLit hk).trans e)) hb_27.lt
                  have S := S.agrN ag_254 (fun k e => Nat.le_trans (by omega) e.2)
                  have hb_5 := hb_5.step ag_254 (fun e => n_5__251.symm (obLit e.1))
                  have hb_8 := hb_8.step ag_254 (fun e => n_8__251.symm (obLit e.1))
                  have hb_15 := hb_15.step ag_254 (fun e => n_15__251.symm (obLit e.1))
                  have S9 := S9.agrN ag_254 (fun k e => Nat.le_trans (by omega) e.2)
                  have szD := Nat.le_trans szD ag_254.size
                  have hb_27 := hb_27.step ag_254 (fun e => n_27__251.symm (obLit e.1))
                  obtain ⟨a_254, c_254, rfl, k_254⟩ := o254.form
                  refine RD.back (ag_254.mono fun k _ e => by have := e.2; omega) ?_
                  refine RD.take 8 rfl (by kernel_rfl) (by kernel_rfl) (by kernel_rfl) (fun w' s' => .buildS ze25 pl25 rfl rfl) rfl rfl ?_
                  refine RD.all [10] (by kernel_rfl) rfl (RDs.cons rfl ?_ (RDs.nil))
                  refine RL.store sh25 rfl rfl rfl hb_27 (by exact Nat.le_of_ble_eq_true rfl) (by rfl) rfl (fun w54 z54 hb_27 a54 => ?_)
                  have S := S.upd a54 ge_27
                  have hb_5 := hb_5.upd a54 n_5__27
                  have hb_8 := hb_8.upd a54 n_8__27
                  have hb_15 := hb_15.upd a54 n_15__27
                  have S9 := S9.upd a54 geS9_27
                  have szD := Nat.le_trans szD a54.size
                  have o254 := o254.updD a54 d_o254_b_27
                  refine RD.backW rfl (a54.mono fun k _ e => e ▸ (.inr fr_b_27)) ?_
                  exact RD.done (by kernel_rfl) (fun a ka => ⟨(b_27, (a_254, c_254)), ⟨n_8__27, n_15__27, by omega, hb_8, hb_15, hb_27, o254, d_o254_b_27, S9, S⟩, ka.keep (keep_of (by repeat (first | exact trivial | refine And.intro rfl ?_)))⟩)
              obtain ⟨b_27, a_254, c_254⟩ := m_
              obtain ⟨n_8__27, n_15__27, ge27, hb_8, hb_15, hb_27, o254, q1, S9, S⟩ := hJ
              simp only [] at n_8__27 n_15__27 ge27 hb_27 o254 q1
              have ge_27 : w.heap.size ≤ b_27 := (by omega)
              have geS9_27 : W9.heap.size ≤ b_27 := (by omega)
              obtain ⟨b_C, cap_C, ex_C, f_C, g_C, k_C, m_C, hb_C, l_C⟩ := o254.has (by simp only [List.length_map]; omega)
              simp only [Value.slice.injEq, true_and] at f_C
              obtain ⟨rfl, rfl⟩ := f_C
              have ge_C : w.heap.size ≤ b_C := (by omega)
              have geS9_C : W9.heap.size ≤ b_C := (by omega)
              have nb_C_b_8 : b_C ≠ b_8 := by omega
              have nb_C_b_15 : b_C ≠ b_15 := by omega
              have nb_C_b_27 : b_C ≠ b_27 := by exact q1 _ rfl
              refine RC.seq ?_
              refine RC.region rfl ?_
              refine RL.ev (.field0 fo25_0 rfl) rfl rfl ?_
              refine RL.ev (.load1 sh22 rfl (hb_27.cell rfl)) rfl rfl ?_
              refine RL.ev (.move rfl) rfl rfl ?_
              refine RL.ev (.loadR ((madeN (fewA A) x).cells) sh35 rfl hb_8.row rfl) rfl rfl ?_
              refine RL.ev (.indexO sl22 rfl rfl (by simp only [List.length_map]; omega)) rfl rfl ?_
              refine RL.store sh35 rfl rfl rfl hb_C (by rw [List.length_append, flat_len (sz := 16) _ (fun r hr => by obtain ⟨z, _, rfl⟩ := List.mem_map.1 hr; rfl), List.length_map]; show _ + 16 ≤ _; omega) (by rfl) rfl (fun w55 z55 hb_C a55 => ?_)
              have S := S.upd a55 ge_C
              have S9 := S9.upd a55 geS9_C
              have hb_8 := hb_8.upd a55 nb_C_b_8.symm
              have hb_15 := hb_15.upd a55 nb_C_b_15.symm
              have hb_27 := hb_27.upd a55 nb_C_b_27.symm
              rw [Nat.zero_add] at hb_C
              have hb_C := Has.row_set hb_C (fun r hr => by obtain ⟨z, _, rfl⟩ := List.mem_map.1 hr; rfl) (by rw [List.length_map]; omega) rfl
              have hwant : ArR w55 (some ⟨b_C, 0, none⟩) fa (makeA (fewA A) x) := ⟨by rw [makeA, List.map_set]; exact Has.sl hb_C (fun r hr => (List.mem_or_eq_of_mem_set hr).elim (fun hr => by obtain ⟨z, _, rfl⟩ := List.mem_map.1 hr; rfl) (fun e => e ▸ rfl)), by rw [makeA, List.map_take]; exact (hAf.sub S).take _, fun z hz => (List.mem_or_eq_of_mem_set hz).elim (hA'.nok z) (fun e => e ▸ ⟨hx.kind, by unfold I64; show _ ≤ genAt (fewA A) (lastAt (fewA A)) ∧ genAt (fewA A) (lastAt (fewA A)) ≤ _; omega, hx.n, hx.v, hx.s, hx.kids, hx.pre, hx.suf⟩), fun z hz => hA'.fok z (List.mem_of_mem_take hz)⟩
              obtain ⟨W10, S10, hw10⟩ : ∃ W10, Sub W10 w55 ∧ ArR W10 (some ⟨b_C, 0, none⟩) fa (makeA (fewA A) x) := ⟨_, Sub.refl _, hwant⟩
              refine RL.nil (RC.back ?_)
              refine RC.seq ?_
              refine RC.region rfl ?_
              refine RL.ev (.move rfl) rfl rfl ?_
              refine RL.ev (.as (v' := .bool true) (.bin rfl rfl rfl) (congrArg Value.bool (decide_eq_true (hb1)))) rfl rfl ?_
              refine RL.ev (.move rfl) rfl rfl ?_
              refine RL.ev (.move rfl) rfl rfl ?_
              refine RL.ev (.move rfl) rfl rfl ?_
              refine RL.ev (.field0 fo35_1 rfl) rfl rfl ?_
              refine RL.ev (.load1 sh3 rfl (hb_8.cell rfl)) rfl rfl ?_
              refine RL.call rfl ok23 (c_r3Of _ _ (make_isR hok hpos) w55) rfl rfl ?_
              rintro _ w56 ⟨rfl, s57⟩
              have S := S.trans s57
              have S9 := S9.trans s57
              have hb_8 := hb_8.sub s57
              have hb_15 := hb_15.sub s57
              have hb_27 := hb_27.sub s57
              have hb_C := hb_C.sub s57
              have S10 := S10.trans s57
              refine RL.ev (.as (v' := .bool true) (.bin rfl rfl rfl) (congrArg Value.bool (decide_eq_true (hb3)))) rfl rfl ?_
              refine RL.ev (.pick_t rfl rfl) rfl rfl ?_
              refine RL.ev (.move rfl) rfl rfl ?_
              refine RL.ev (.loadR ([.slice nb' B.nodes.length ncb, .slice fb' B.free.length fcb]) sh25 rfl hb_15.row rfl) rfl rfl ?_
              refine RL.ev (.as (v' := arV (some ⟨b_C, 0, none⟩) fa c_254 fc (makeA (fewA A) x)) (.loadR ([.slice (some ⟨b_C, 0, none⟩) ((fewA A).nodes.map Node.cells).length c_254, .slice fa ((fewA A).free.length - 1) fc]) sh25 rfl hb_27.row rfl) (by simp only [arV, makeA, List.length_set, List.length_take, List.length_map]; rw [Nat.min_eq_left (by omega)])) rfl rfl ?_
              refine RL.call rfl ok13 ((likeB_same hb2 ▸ c_r4Like B (makeA (fewA A) x) nb' fb' ncb fcb (some ⟨b_C, 0, none⟩) fa c_254 fc w56 (hB9.sub S9) (hw10.sub S10) (by rw [hb2]; simp only [makeA, List.length_set]; omega) (by rw [hb2]; simp only [makeA, List.length_take]; omega))) rfl rfl ?_
              rintro _ w58 ⟨rfl, s59⟩
              have S := S.trans s59
              have S9 := S9.trans s59
              have hb_8 := hb_8.sub s59
              have hb_15 := hb_15.sub s59
              have hb_27 := hb_27.sub s59
              have hb_C := hb_C.sub s59
              have S10 := S10.trans s59
              refine RL.ev (.pick_t rfl rfl) rfl rfl ?_
              refine RL.ev (.assign rfl) rfl rfl ?_
              refine RL.nil (RC.back ?_)
              refine RC.done (rs := [.tmp 10]) (vs := [_]) rfl rfl ⟨rfl, trivial⟩ ?_
              -- end 6
              exact ⟨rfl, S⟩
end Go.Proofs.Ytfcmbojlflgpmaa
