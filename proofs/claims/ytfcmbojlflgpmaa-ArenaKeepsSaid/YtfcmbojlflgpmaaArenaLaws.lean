/-
  The statements of the layer arena: what they use.
-/
import Derived.Test.YtfcmbojlflgpmaaArenaPlain
import Derived.Test.YtfcmbojlflgpmaaOpen
import Derived.ChangeSame
set_option linter.unusedVariables false
set_option linter.unusedSimpArgs false
namespace Go.Proofs.Ytfcmbojlflgpmaa
open Go Go.XL

theorem wfI {a : Int} (h : (Lit.int .i64 a).wf = true) : I64 a := by
  simp [Lit.wf, IntKind.min, IntKind.max, IntKind.signed, IntKind.bits] at h
  unfold I64
  omega
theorem wfU {a : Int} (h : (Lit.int .u64 a).wf = true) : U64 a := by
  simp [Lit.wf, IntKind.min, IntKind.max, IntKind.signed, IntKind.bits] at h
  unfold U64
  omega
theorem fitI {v : Value} (h : fitR (some .i64) v) : ∃ a, v = .int .i64 a ∧ I64 a := by
  obtain ⟨a, h1, h2⟩ := fitR_int h
  exact ⟨a, h1, wfI h2⟩
theorem fitU {v : Value} (h : fitR (some .u64) v) : ∃ a, v = .int .u64 a ∧ U64 a := by
  obtain ⟨a, h1, h2⟩ := fitR_int h
  exact ⟨a, h1, wfU h2⟩
def nodeK : List (Option IntKind) := [some .i64, some .i64, some .i64, some .i64, some .i64, some .u64, some .u64, some .u64, some .u64, some .u64, some .u64, some .u64, some .u64, some .u64, some .i64, some .i64]
theorem fit_node (r : List Value) (h : fitsR nodeK r) : ∃ x : Node, r = x.cells ∧ x.ok := by
  obtain ⟨_, _, rfl, h0, h⟩ := fitsR_cons h
  obtain ⟨_, _, rfl, h1, h⟩ := fitsR_cons h
  obtain ⟨_, _, rfl, h2, h⟩ := fitsR_cons h
  obtain ⟨_, _, rfl, h3, h⟩ := fitsR_cons h
  obtain ⟨_, _, rfl, h4, h⟩ := fitsR_cons h
  obtain ⟨_, _, rfl, h5, h⟩ := fitsR_cons h
  obtain ⟨_, _, rfl, h6, h⟩ := fitsR_cons h
  obtain ⟨_, _, rfl, h7, h⟩ := fitsR_cons h
  obtain ⟨_, _, rfl, h8, h⟩ := fitsR_cons h
  obtain ⟨_, _, rfl, h9, h⟩ := fitsR_cons h
  obtain ⟨_, _, rfl, h10, h⟩ := fitsR_cons h
  obtain ⟨_, _, rfl, h11, h⟩ := fitsR_cons h
  obtain ⟨_, _, rfl, h12, h⟩ := fitsR_cons h
  obtain ⟨_, _, rfl, h13, h⟩ := fitsR_cons h
  obtain ⟨_, _, rfl, h14, h⟩ := fitsR_cons h
  obtain ⟨_, _, rfl, h15, h⟩ := fitsR_cons h
  obtain rfl := fitsR_nil h
  obtain ⟨a0, rfl, g0⟩ := fitI h0
  obtain ⟨a1, rfl, g1⟩ := fitI h1
  obtain ⟨a2, rfl, g2⟩ := fitI h2
  obtain ⟨a3, rfl, g3⟩ := fitI h3
  obtain ⟨a4, rfl, g4⟩ := fitI h4
  obtain ⟨a5, rfl, g5⟩ := fitU h5
  obtain ⟨a6, rfl, g6⟩ := fitU h6
  obtain ⟨a7, rfl, g7⟩ := fitU h7
  obtain ⟨a8, rfl, g8⟩ := fitU h8
  obtain ⟨a9, rfl, g9⟩ := fitU h9
  obtain ⟨a10, rfl, g10⟩ := fitU h10
  obtain ⟨a11, rfl, g11⟩ := fitU h11
  obtain ⟨a12, rfl, g12⟩ := fitU h12
  obtain ⟨a13, rfl, g13⟩ := fitU h13
  obtain ⟨a14, rfl, g14⟩ := fitI h14
  obtain ⟨a15, rfl, g15⟩ := fitI h15
  refine ⟨⟨a0, a1, a2, a3, a4, a5, a6, a7, a8, a9, a10, a11, a12, a13, a14, a15⟩, rfl, g0, g1, g2, g3, g4, ?_, g14, g15⟩
  intro k hk
  simp only [Node.kids, List.mem_cons, List.not_mem_nil, or_false] at hk
  rcases hk with rfl | rfl | rfl | rfl | rfl | rfl | rfl | rfl | rfl <;> assumption
theorem fit_int (r : List Value) (h : fitsR [some .i64] r) : ∃ x : Int, r = [i6 x] ∧ I64 x := by
  obtain ⟨_, _, rfl, h0, h⟩ := fitsR_cons h
  obtain rfl := fitsR_nil h
  obtain ⟨a, rfl, g⟩ := fitI h0
  exact ⟨a, rfl, g⟩
theorem fit_ref (r : List Value) (h : fitsR [some .u64] r) : ∃ x : Int, r = [u6 x] ∧ U64 x := by
  obtain ⟨_, _, rfl, h0, h⟩ := fitsR_cons h
  obtain rfl := fitsR_nil h
  obtain ⟨a, rfl, g⟩ := fitU h0
  exact ⟨a, rfl, g⟩

section
variable {H : Type} {enc : TypeId × Value → H} {W : World} {base : Nat} {sp : Nat → Bool} {held : Bool} {v : Value} {d : DataW H} {ps : List MemPlace} {r : Reach} {b : Nat}
theorem open_node (hok : Value.okWide Try.prog W r b 35 v) (h : DataW.Trod enc Try.prog W base sp held 35 v d ps) : ∃ x : Node, v = x.val ∧ x.ok := by
  obtain ⟨cs, rfl, hf⟩ := open_flat sh35 fk35 rfl hok h
  obtain ⟨x, rfl, hx⟩ := fit_node cs hf
  exact ⟨x, rfl, hx⟩
theorem open_ints (hok : Value.okWide Try.prog W r b 23 v) (h : DataW.Trod enc Try.prog W base sp held 23 v d ps) : ∃ (a : Option Addr) (l : List Int) (c : Nat), v = .slice a l.length c ∧ l.length ≤ c ∧ c ≤ maxLen ∧ Sl W a 1 (l.map fun x => [i6 x]) ∧ ∀ x ∈ l, I64 x :=
  open_sl (fun x => [i6 x]) I64 sl23 rfl rfl fit_int hok h
theorem open_arena (hok : Value.okWide Try.prog W r b 25 v) (h : DataW.Trod enc Try.prog W base sp held 25 v d ps) : ∃ (A : Ar) (na fa : Option Addr) (nc fc : Nat), v = arV na fa nc fc A ∧ A.nodes.length ≤ nc ∧ A.free.length ≤ fc ∧ ArR W na fa A := by
  obtain ⟨n, hn⟩ := h
  simp only [Value.okWide, Try.underlying25] at hok
  obtain ⟨cs, rfl, hc, _⟩ := hok
  obtain ⟨y0, y1, n', _, hl, h0, h1⟩ := ChangeShapes.trod_struct2 Try.underlying25 hn
  rw [cellsOf_shape sh25] at hl
  obtain ⟨na, rows, nc, e1, g1, g2, g3, g4⟩ := trod_sl sl22 fk35 rfl h0
  obtain ⟨fa, rows2, fc, e2, k1, k2, k3, k4⟩ := trod_sl sl23 (ks := [some .i64]) rfl rfl h1
  rw [cellsOf_shape sh22] at e1
  rw [cellsOf_shape sh23] at e2
  obtain ⟨l, rfl, hl1⟩ := rows_of (enc := Node.cells) (ok := Node.ok) rows (fun r hr => fit_node r (g4 r hr))
  obtain ⟨l2, rfl, hl2⟩ := rows_of (enc := fun x => [i6 x]) (ok := I64) rows2 (fun r hr => fit_int r (k4 r hr))
  have hcs : cs.toList = [.slice na l.length nc, .slice fa l2.length fc] := by
    change cs.toList.length = 2 at hl
    match hq : cs.toList, hl with
    | [x, y], _ =>
      rw [show (Value.agg cs).cells.toList = cs.toList from rfl, hq] at e1 e2
      simp only [List.length_map] at e1 e2
      change [x] = _ at e1
      change [y] = _ at e2
      rw [List.cons.injEq] at e1 e2
      rw [e1.1, e2.1]
  refine ⟨⟨l, l2⟩, na, fa, nc, fc, ?_, by simpa using g1, by simpa using k1, g3, k3, hl1, hl2⟩
  show Value.agg cs = Value.agg _
  congr 1
  rw [← Array.toArray_toList (xs := cs), hcs]
end

def fewA (A : Ar) : Ar := ⟨A.nodes.take 40, A.free.take 42⟩
theorem fewA_R {w na fa A} (h : ArR w na fa A) : ArR w na fa (fewA A) :=
  ⟨by rw [fewA, List.map_take]; exact h.nodes.take _, by rw [fewA, List.map_take]; exact h.free.take _, fun x hx => h.nok x (List.mem_of_mem_take hx), fun x hx => h.fok x (List.mem_of_mem_take hx)⟩
theorem few_len (k : Nat) {α : Type} (l : List α) : (if (k : Int) < (l.length : Int) then (k : Int) else l.length).toNat = (l.take k).length := by
  rw [List.length_take]; split <;> omega

theorem c_few (A : Ar) (na fa : Option Addr) (nc fc : Nat) (hnc : A.nodes.length ≤ nc) (hfc : A.free.length ≤ fc) (w : World) :
    FC Try.prog 9 [arV na fa nc fc A] w (Val (arV na fa nc fc (fewA A)) w) := by
  refine FC.intro Try.func9 rfl Try.ntmps9 rfl ?_
  have S := Sub.refl w
  refine RC.seq ?_
  refine RC.region rfl ?_
  refine RL.box rfl rfl rfl (fun b_1 w_1 e_1 z_1 hb_1 s_1 => ?_)
  have ge_1 := S.le e_1
  have S := S.trans s_1
  have hb_1 : Has w_1 b_1 ([.slice na A.nodes.length nc, .slice fa A.free.length fc]) _ := hb_1
  refine RL.alloc ze25 rfl rfl (fun b_2 w_2 e_2 z_2 hb_2 s_2 => ?_)
  have ge_2 := S.le e_2
  have n_1__2 := hb_1.ne e_2
  have S := S.trans s_2
  have hb_1 := hb_1.sub s_2
  refine RL.nil (RC.back ?_)
  refine RC.seq ?_
  refine RC.drawD (fun k => k = b_1) [15, 17] w_2.heap.size 18 rfl rfl mxo (fun w1 s2 => ?_)
  have hNN : ∀ k, ((k = b_1) ∨ w_2.heap.size ≤ k) → w.heap.size ≤ k := fun k e => e.elim (fun e => e ▸ ge_1) (fun e => Nat.le_trans S.size e)
  have ent_S := S.size
  have hN0 : ∀ k, w_2.heap.size ≤ k → w.heap.size ≤ k := fun k e => Nat.le_trans S.size e
  have ltD_b_1 := hb_1.lt
  have ltD_b_2 := hb_2.lt
  have szD := Nat.le_refl w_2.heap.size
  have S := S.trans s2
  have hb_1 := hb_1.sub s2
  have hb_2 := hb_2.sub s2
  have szD := Nat.le_trans szD s2.size
  refine RD.take 0 rfl (by kernel_rfl) (by kernel_rfl) (by kernel_rfl) (fun w' s' => .field0 fo25_0 rfl) rfl rfl ?_
  refine RD.takeL 1 rfl (by kernel_rfl) (by kernel_rfl) (by kernel_rfl) (by kernel_rfl) (fun w' s' => .load1 sh22 rfl ((hb_1.step s' (fun e => Nat.not_le.2 ltD_b_1 e)).cell rfl)) rfl rfl ?_
  refine RD.take 2 rfl (by kernel_rfl) (by kernel_rfl) (by kernel_rfl) (fun w' s' => .field0 fo25_0 rfl) rfl rfl ?_
  refine RD.takeL 3 rfl (by kernel_rfl) (by kernel_rfl) (by kernel_rfl) (by kernel_rfl) (fun w' s' => .load1 sh22 rfl ((hb_1.step s' (fun e => Nat.not_le.2 ltD_b_1 e)).cell rfl)) rfl rfl ?_
  refine RD.take 4 rfl (by kernel_rfl) (by kernel_rfl) (by kernel_rfl) (fun w' s' => .len sl22 rfl) rfl rfl ?_
  refine RD.take 5 rfl (by kernel_rfl) (by kernel_rfl) (by kernel_rfl) (fun w' s' => .min2 rfl rfl) rfl rfl ?_
  refine RD.take 6 rfl (by kernel_rfl) (by kernel_rfl) (by kernel_rfl) (fun w' s' => .as (v' := .slice na (A.nodes.take 40).length nc) (.sliceHi sl22 rfl rfl (by split <;> omega)) (by rw [← few_len]; rfl)) rfl rfl ?_
  refine RD.take 7 rfl (by kernel_rfl) (by kernel_rfl) (by kernel_rfl) (fun w' s' => .field0 fo25_1 rfl) rfl rfl ?_
  refine RD.takeL 8 rfl (by kernel_rfl) (by kernel_rfl) (by kernel_rfl) (by kernel_rfl) (fun w' s' => .load1 sh23 rfl ((hb_1.step s' (fun e => Nat.not_le.2 ltD_b_1 e)).cell rfl)) rfl rfl ?_
  refine RD.take 9 rfl (by kernel_rfl) (by kernel_rfl) (by kernel_rfl) (fun w' s' => .field0 fo25_1 rfl) rfl rfl ?_
  refine RD.takeL 10 rfl (by kernel_rfl) (by kernel_rfl) (by kernel_rfl) (by kernel_rfl) (fun w' s' => .load1 sh23 rfl ((hb_1.step s' (fun e => Nat.not_le.2 ltD_b_1 e)).cell rfl)) rfl rfl ?_
  refine RD.take 11 rfl (by kernel_rfl) (by kernel_rfl) (by kernel_rfl) (fun w' s' => .len sl23 rfl) rfl rfl ?_
  refine RD.take 12 rfl (by kernel_rfl) (by kernel_rfl) (by kernel_rfl) (fun w' s' => .min2 rfl rfl) rfl rfl ?_
  refine RD.take 13 rfl (by kernel_rfl) (by kernel_rfl) (by kernel_rfl) (fun w' s' => .as (v' := .slice fa (A.free.take 42).length fc) (.sliceHi sl23 rfl rfl (by split <;> omega)) (by rw [← few_len]; rfl)) rfl rfl ?_
  refine RD.take 14 rfl (by kernel_rfl) (by kernel_rfl) (by kernel_rfl) (fun w' s' => .field0 fo25_0 rfl) rfl rfl ?_
  refine RD.all [15] (by kernel_rfl) rfl (RDs.cons rfl ?_ (RDs.nil))
  refine RL.store sh22 rfl rfl rfl hb_1 (by exact Nat.le_of_ble_eq_true rfl) (by rfl) rfl (fun w3 z3 hb_1 a3 => ?_)
  have S := S.upd a3 ge_1
  have hb_2 := hb_2.upd a3 n_1__2.symm
  have szD := Nat.le_trans szD a3.size
  refine RD.backW rfl (a3.mono fun k _ e => e ▸ (.inl (rfl))) ?_
  refine RD.take 16 rfl (by kernel_rfl) (by kernel_rfl) (by kernel_rfl) (fun w' s' => .field0 fo25_1 rfl) rfl rfl ?_
  refine RD.all [17] (by kernel_rfl) rfl (RDs.cons rfl ?_ (RDs.nil))
  refine RL.store sh23 rfl rfl rfl hb_1 (by exact Nat.le_of_ble_eq_true rfl) (by rfl) rfl (fun w4 z4 hb_1 a4 => ?_)
  have S := S.upd a4 ge_1
  have hb_2 := hb_2.upd a4 n_1__2.symm
  have szD := Nat.le_trans szD a4.size
  refine RD.backW rfl (a4.mono fun k _ e => e ▸ (.inl (rfl))) ?_
  refine RD.done (by kernel_rfl) (RC.back ?_)
  refine RC.seq ?_
  refine RC.region rfl ?_
  refine RL.ev (.loadR ([.slice na (A.nodes.take 40).length nc, .slice fa (A.free.take 42).length fc]) sh25 rfl hb_1.row rfl) rfl rfl ?_
  refine RL.store sh25 rfl rfl rfl hb_2 (by exact Nat.le_of_ble_eq_true rfl) (by rfl) rfl (fun w5 z5 hb_2 a5 => ?_)
  have S := S.upd a5 ge_2
  have hb_1 := hb_1.upd a5 n_1__2
  have hb_2 : Has w5 b_2 ([.slice na (A.nodes.take 40).length nc, .slice fa (A.free.take 42).length fc]) _ := hb_2.now (by kernel_rfl)
  refine RL.nil (RC.back ?_)
  refine RC.done (rs := [.cell 2 25]) (vs := [_]) rfl rfl ⟨⟨_, rfl, .inr ⟨[.slice na (A.nodes.take 40).length nc, .slice fa (A.free.take 42).length fc], sh25, hb_2.row, rfl⟩⟩, trivial⟩ ?_
  -- end 1
  exact ⟨rfl, S⟩

theorem make_third {A : Ar} {x : Node} {P1 P2 P3 : Prop} (hm : mayMake A x) (hp : 0 < A.free.length) (h : ¬ mayMake A x ∧ P1 ∨ mayMake A x ∧ A.free.length = 0 ∧ P2 ∨ mayMake A x ∧ 0 < A.free.length ∧ P3) : P3 := by
  rcases h with h | h | h
  · exact absurd hm h.1
  · omega
  · exact h.2.2
def n7 : Node := ⟨1, 0, 7, 0, 0, 0, 0, 0, 0, 0, 0, 0, 0, 0, 0, 0⟩
theorem n7_ok : n7.ok := ⟨by unfold I64 n7; decide, z64, by unfold I64 n7; decide, z64, z64, fun k hk => by simp [Node.kids, n7] at hk; subst hk; exact zu64, z64, z64⟩
theorem n7_may : mayMake (newA 2) n7 := ⟨newA_ok (by decide), by decide, by decide, by decide⟩

theorem c_alive4 (w : World) : FC Try.prog 12 [] w (Val (.bool true) w) := by
  have hpos : 0 < (newA 2).free.length := by decide
  have hget := getV_yes (get_made n7_may hpos)
  have hisr := make_isR n7_may.1 hpos
  refine FC.intro Try.func12 rfl Try.ntmps12 rfl ?_
  have S := Sub.refl w
  have nb := NB.nil w
  refine RC.seq ?_
  refine RC.region rfl ?_
  refine RL.ev (.assign rfl) rfl rfl ?_
  refine RL.nil (RC.back ?_)
  refine RC.seq ?_
  refine RC.region rfl ?_
  refine RL.call rfl ok15 (c_aNew 2 (by decide) w) rfl rfl ?_
  rintro _ w1 ⟨na, fa, nc, fc, rfl, hnc, hfc, hn, s2⟩
  have hA := hn _ nb
  have S := S.trans s2
  have nb := nb.sub s2
  refine RL.ev (.move rfl) rfl rfl ?_
  refine RL.ev (.extract rfl rfl) rfl rfl ?_
  refine RL.ev (.extract rfl rfl) rfl rfl ?_
  refine RL.alloc ze25 rfl rfl (fun b_1 w_1 e_1 z_1 hb_1 s_1 => ?_)
  have ge_1 := S.le e_1
  have S := S.trans s_1
  have nb := nb.add s_1 e_1 z_1
  have hA := hA.add s_1 e_1
  refine RL.store sh25 rfl rfl rfl hb_1 (by exact Nat.le_of_ble_eq_true rfl) (by rfl) rfl (fun w3 z3 hb_1 a3 => ?_)
  have S := S.upd a3 ge_1
  have nb := nb.upd a3
  have hA := hA.upd a3 (.inr rfl)
  have hb_1 : Has w3 b_1 ([.slice na (newA 2).nodes.length nc, .slice fa (newA 2).free.length fc]) _ := hb_1.now (by kernel_rfl)
  refine RL.ev (.assign rfl) rfl rfl ?_
  refine RL.nil (RC.back ?_)
  refine RC.seq ?_
  refine RC.region rfl ?_
  refine RL.ev (.loadR ([.slice na (newA 2).nodes.length nc, .slice fa (newA 2).free.length fc]) sh25 rfl hb_1.row rfl) rfl rfl ?_
  refine RL.ev (.buildS ze35 pl35 rfl rfl) rfl rfl ?_
  refine RL.call rfl ok17 (c_aMake (newA 2) na fa nc fc n7 n7_ok w3 hA.now hfc) rfl rfl ?_
  rintro _ w4 ⟨s5, hr⟩
  obtain ⟨av, rfl, na', fa', nc', fc', rfl, hnc', hfc', hi⟩ := make_third n7_may hpos hr
  have hB := hi _ nb hA
  have S := S.trans s5
  have nb := nb.sub s5
  have hA := hA.sub s5
  have hb_1 := hb_1.sub s5
  refine RL.ev (.move rfl) rfl rfl ?_
  refine RL.ev (.extract rfl rfl) rfl rfl ?_
  refine RL.ev (.extract rfl rfl) rfl rfl ?_
  refine RL.ev (.extract rfl rfl) rfl rfl ?_
  refine RL.store sh25 rfl rfl rfl hb_1 (by exact Nat.le_of_ble_eq_true rfl) (by rfl) rfl (fun w6 z6 hb_1 a6 => ?_)
  have S := S.upd a6 ge_1
  have nb := nb.upd a6
  have hA := hA.upd a6 (.inr rfl)
  have hB := hB.upd a6 (.inr rfl)
  have hb_1 : Has w6 b_1 ([.slice na' (makeA (newA 2) n7).nodes.length nc', .slice fa' (makeA (newA 2) n7).free.length fc']) _ := hb_1.now (by kernel_rfl)
  refine RL.ev (.assign rfl) rfl rfl ?_
  refine RL.ev (.assign rfl) rfl rfl ?_
  refine RL.nil (RC.back ?_)
  refine RC.seq ?_
  refine RC.region rfl ?_
  refine RL.ev (.loadR ([.slice na' (makeA (newA 2) n7).nodes.length nc', .slice fa' (makeA (newA 2) n7).free.length fc']) sh25 rfl hb_1.row rfl) rfl rfl ?_
  refine RL.ev (.move rfl) rfl rfl ?_
  refine RL.call rfl ok16 ((hget ▸ c_aGet (makeA (newA 2) n7) na' fa' nc' fc' (makeR (newA 2)) (ofR_U64 hisr) w6 hB.now)) rfl rfl ?_
  rintro _ w7 ⟨rfl, s8⟩
  have S := S.trans s8
  have nb := nb.sub s8
  have hA := hA.sub s8
  have hb_1 := hb_1.sub s8
  have hB := hB.sub s8
  refine RL.ev (.move rfl) rfl rfl ?_
  refine RL.ev (.extract rfl rfl) rfl rfl ?_
  refine RL.ev (.extract rfl rfl) rfl rfl ?_
  refine RL.alloc ze35 rfl rfl (fun b_5 w_5 e_5 z_5 hb_5 s_5 => ?_)
  have ge_5 := S.le e_5
  have n_1__5 := hb_1.ne e_5
  have S := S.trans s_5
  have nb := nb.add s_5 e_5 z_5
  have hA := hA.add s_5 e_5
  have hb_1 := hb_1.sub s_5
  have hB := hB.add s_5 e_5
  refine RL.store sh35 rfl rfl rfl hb_5 (by exact Nat.le_of_ble_eq_true rfl) (by rfl) rfl (fun w9 z9 hb_5 a9 => ?_)
  have S := S.upd a9 ge_5
  have nb := nb.upd a9
  have hA := hA.upd a9 (.inr rfl)
  have hb_1 := hb_1.upd a9 n_1__5
  have hB := hB.upd a9 (.inr rfl)
  have hb_5 : Has w9 b_5 ((madeN (newA 2) n7).cells) _ := hb_5.now (by kernel_rfl)
  refine RL.ev (.assign rfl) rfl rfl ?_
  refine RL.nil (RC.back ?_)
  refine RC.seq ?_
  refine RC.region rfl ?_
  refine RL.ev (.move rfl) rfl rfl ?_
  refine RL.ev (.as (v' := .bool true) (.bin rfl rfl rfl) (congrArg Value.bool (decide_eq_true (rfl)))) rfl rfl ?_
  refine RL.ev (.move rfl) rfl rfl ?_
  refine RL.ev (.move rfl) rfl rfl ?_
  refine RL.ev (.as (v' := .bool true) (.bin rfl rfl rfl) (congrArg Value.bool (decide_eq_true (rfl)))) rfl rfl ?_
  refine RL.ev (.pick_t rfl rfl) rfl rfl ?_
  refine RL.ev (.move rfl) rfl rfl ?_
  refine RL.ev (.move rfl) rfl rfl ?_
  refine RL.ev (.as (v' := .bool true) (.bin rfl rfl rfl) (congrArg Value.bool (decide_eq_true (rfl)))) rfl rfl ?_
  refine RL.ev (.pick_t rfl rfl) rfl rfl ?_
  refine RL.ev (.move rfl) rfl rfl ?_
  refine RL.ev (.field0 fo35_2 rfl) rfl rfl ?_
  refine RL.ev (.load1 sh2 rfl (hb_5.cell rfl)) rfl rfl ?_
  refine RL.ev (.as (v' := .bool true) (.bin rfl rfl rfl) (congrArg Value.bool (decide_eq_true (rfl)))) rfl rfl ?_
  refine RL.ev (.pick_t rfl rfl) rfl rfl ?_
  refine RL.ev (.move rfl) rfl rfl ?_
  refine RL.ev (.loadR ([.slice na' (makeA (newA 2) n7).nodes.length nc', .slice fa' (makeA (newA 2) n7).free.length fc']) sh25 rfl hb_1.row rfl) rfl rfl ?_
  refine RL.call rfl ok14 ((aokB_yes (make_ok n7_may hpos) ▸ c_aRight (makeA (newA 2) n7) na' fa' nc' fc' w9 hB.now)) rfl rfl ?_
  rintro _ w10 ⟨rfl, s11⟩
  have S := S.trans s11
  have nb := nb.sub s11
  have hA := hA.sub s11
  have hb_1 := hb_1.sub s11
  have hB := hB.sub s11
  have hb_5 := hb_5.sub s11
  refine RL.ev (.pick_t rfl rfl) rfl rfl ?_
  refine RL.ev (.assign rfl) rfl rfl ?_
  refine RL.nil (RC.back ?_)
  refine RC.done (rs := [.tmp 0]) (vs := [_]) rfl rfl ⟨rfl, trivial⟩ ?_
  -- end 1
  exact ⟨rfl, S⟩
end Go.Proofs.Ytfcmbojlflgpmaa
