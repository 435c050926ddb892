/-
  The statements of the layer model: their arguments, opened; what is cut; alive.
-/
import Derived.Test.YtjafbffehmombaaModelG
import Derived.Test.YtjafbffehmombaaI64s
set_option linter.unusedVariables false
set_option linter.unusedSimpArgs false
namespace Go.Proofs.Ytjafbffehmombaa
open Go Go.XL

theorem fit_it (r : List Value) (h : fitsR [some .i64, some .i64] r) : ∃ x : It, r = x.cells ∧ x.ok := by
  obtain ⟨_, _, rfl, h0, h⟩ := fitsR_cons h
  obtain ⟨_, _, rfl, h1, h⟩ := fitsR_cons h
  obtain rfl := fitsR_nil h
  obtain ⟨a, rfl, g⟩ := fitI h0
  obtain ⟨b, rfl, k⟩ := fitI h1
  exact ⟨⟨a, b⟩, rfl, g, k⟩
theorem fit_op (r : List Value) (h : fitsR [some .i64, some .i64, some .i64, some .i64] r) : ∃ x : OpT, r = x.cells ∧ x.ok := by
  obtain ⟨_, _, rfl, h0, h⟩ := fitsR_cons h
  obtain ⟨_, _, rfl, h1, h⟩ := fitsR_cons h
  obtain ⟨_, _, rfl, h2, h⟩ := fitsR_cons h
  obtain ⟨_, _, rfl, h3, h⟩ := fitsR_cons h
  obtain rfl := fitsR_nil h
  obtain ⟨a, rfl, g⟩ := fitI h0
  obtain ⟨b, rfl, k⟩ := fitI h1
  obtain ⟨c, rfl, k2⟩ := fitI h2
  obtain ⟨d, rfl, k3⟩ := fitI h3
  exact ⟨⟨a, b, c, d⟩, rfl, g, k, k2, k3⟩
section
variable {H : Type} {enc : TypeId × Value → H} {W : World} {base : Nat} {sp : Nat → Bool} {held : Bool} {v : Value} {d : DataW H} {ps : List MemPlace} {r : Reach} {b : Nat}
set_option maxRecDepth 100000 in
theorem open_its (hok : Value.okWide Try.prog W r b 22 v) (h : DataW.Trod enc Try.prog W base sp held 22 v d ps) : ∃ (a : Option Addr) (l : List It) (c : Nat), v = .slice a l.length c ∧ l.length ≤ c ∧ c ≤ maxLen ∧ Sl W a 2 (l.map It.cells) ∧ ∀ x ∈ l, x.ok :=
  open_sl It.cells It.ok sl22 fk45 rfl fit_it hok h
set_option maxRecDepth 100000 in
theorem open_ops (hok : Value.okWide Try.prog W r b 26 v) (h : DataW.Trod enc Try.prog W base sp held 26 v d ps) : ∃ (a : Option Addr) (l : List OpT) (c : Nat), v = .slice a l.length c ∧ l.length ≤ c ∧ c ≤ maxLen ∧ Sl W a 4 (l.map OpT.cells) ∧ ∀ x ∈ l, x.ok :=
  open_sl OpT.cells OpT.ok sl26 fk34 rfl fit_op hok h
set_option maxRecDepth 100000 in
theorem open_op (hok : Value.okWide Try.prog W r b 34 v) (h : DataW.Trod enc Try.prog W base sp held 34 v d ps) : ∃ x : OpT, v = .agg x.cells.toArray ∧ x.ok := by
  obtain ⟨cs, rfl, hf⟩ := open_flat sh34 fk34 rfl hok h
  obtain ⟨x, rfl, hx⟩ := fit_op cs hf
  exact ⟨x, rfl, hx⟩
set_option maxRecDepth 100000 in
theorem open_mo (hok : Value.okWide Try.prog W r b 25 v) (h : DataW.Trod enc Try.prog W base sp held 25 v d ps) : ∃ (p : Ph) (m : Mo), v = moV p m ∧ (m.map.length ≤ p.c1 ∧ m.tab.length ≤ p.c2 ∧ m.row.length ≤ p.c3 ∧ m.heap.length ≤ p.c4) ∧ MoR W p m := by
  obtain ⟨n, hn⟩ := h
  simp only [Value.okWide, Try.underlying25] at hok
  obtain ⟨cs, rfl, hc, _⟩ := hok
  obtain ⟨xs, n', rfl, _, hlen, hxl, hf⟩ := DataW.trod_struct Try.underlying25 hn
  rw [cellsOf_shape sh25] at hlen
  have hq : (Value.agg cs).cells.toList = cs.toList := rfl
  rw [hq] at hlen hf
  obtain ⟨c0, c1, c2, c3, hcs⟩ : ∃ c0 c1 c2 c3, cs.toList = [c0, c1, c2, c3] := by
    match hq : cs.toList, hlen with
    | [a, b, c, d], _ => exact ⟨a, b, c, d, rfl⟩
  rw [hcs] at hf
  have f0 := hf 0 (fieldAt Try.prog 25 0) (by kernel_rfl)
  have f1 := hf 1 (fieldAt Try.prog 25 1) (by kernel_rfl)
  have f2 := hf 2 (fieldAt Try.prog 25 2) (by kernel_rfl)
  have f3 := hf 3 (fieldAt Try.prog 25 3) (by kernel_rfl)
  obtain ⟨x0, hx0⟩ : ∃ x, xs[0]? = some x := ⟨_, List.getElem?_eq_getElem (by rw [hxl]; decide +kernel)⟩
  obtain ⟨x1, hx1⟩ : ∃ x, xs[1]? = some x := ⟨_, List.getElem?_eq_getElem (by rw [hxl]; decide +kernel)⟩
  obtain ⟨x2, hx2⟩ : ∃ x, xs[2]? = some x := ⟨_, List.getElem?_eq_getElem (by rw [hxl]; decide +kernel)⟩
  obtain ⟨x3, hx3⟩ : ∃ x, xs[3]? = some x := ⟨_, List.getElem?_eq_getElem (by rw [hxl]; decide +kernel)⟩
  rw [hx0, show (fieldAt Try.prog 25 0).offset = 0 by kernel_rfl, show (fieldAt Try.prog 25 0).type = 22 by kernel_rfl, cellsOf_shape sh22] at f0
  rw [hx1, show (fieldAt Try.prog 25 1).offset = 1 by kernel_rfl, show (fieldAt Try.prog 25 1).type = 22 by kernel_rfl, cellsOf_shape sh22] at f1
  rw [hx2, show (fieldAt Try.prog 25 2).offset = 2 by kernel_rfl, show (fieldAt Try.prog 25 2).type = 23 by kernel_rfl, cellsOf_shape sh23] at f2
  rw [hx3, show (fieldAt Try.prog 25 3).offset = 3 by kernel_rfl, show (fieldAt Try.prog 25 3).type = 22 by kernel_rfl, cellsOf_shape sh22] at f3
  obtain ⟨a1, r1, k1, e1, g1, _, s1, t1⟩ := trod_sl sl22 fk45 rfl f0
  obtain ⟨a2, r2, k2, e2, g2, _, s2, t2⟩ := trod_sl sl22 fk45 rfl f1
  obtain ⟨a3, r3, k3, e3, g3, _, s3, t3⟩ := trod_sl sl23 (ks := [some .i64]) rfl rfl f2
  obtain ⟨a4, r4, k4, e4, g4, _, s4, t4⟩ := trod_sl sl22 fk45 rfl f3
  obtain ⟨l1, rfl, _⟩ := rows_of (enc := It.cells) (ok := It.ok) r1 (fun r hr => fit_it r (t1 r hr))
  obtain ⟨l2, rfl, _⟩ := rows_of (enc := It.cells) (ok := It.ok) r2 (fun r hr => fit_it r (t2 r hr))
  obtain ⟨l3, rfl, _⟩ := rows_of (enc := fun x => [i6 x]) (ok := I64) r3 (fun r hr => fit_int r (t3 r hr))
  obtain ⟨l4, rfl, _⟩ := rows_of (enc := It.cells) (ok := It.ok) r4 (fun r hr => fit_it r (t4 r hr))
  simp only [List.length_map] at e1 e2 e3 e4 g1 g2 g3 g4
  simp only [List.drop, List.take, List.cons.injEq, and_true] at e1 e2 e3 e4
  subst e1 e2 e3 e4
  refine ⟨⟨a1, k1, a2, k2, a3, k3, a4, k4⟩, ⟨l1, l2, l3, l4⟩, ?_, ⟨g1, g2, g3, g4⟩, ⟨s1, s2, s3, s4⟩⟩
  show Value.agg cs = Value.agg _
  congr 1
  rw [← Array.toArray_toList (xs := cs), hcs]
  rfl
end
def fewM (m : Mo) : Mo := ⟨m.map.take 205, m.tab.take 205, m.row.take 205, m.heap.take 205⟩
theorem fewM_R {w : World} {p : Ph} {m : Mo} (h : MoR w p m) : MoR w p (fewM m) :=
  ⟨by rw [fewM, List.map_take]; exact h.h1.take _, by rw [fewM, List.map_take]; exact h.h2.take _, by rw [fewM, List.map_take]; exact h.h3.take _, by rw [fewM, List.map_take]; exact h.h4.take _⟩
theorem fewM_S {p : Ph} {m : Mo} (h : m.map.length ≤ p.c1 ∧ m.tab.length ≤ p.c2 ∧ m.row.length ≤ p.c3 ∧ m.heap.length ≤ p.c4) : MoS p (fewM m) := by
  constructor <;> simp only [fewM, List.length_take] <;> omega
theorem fewM_l (m : Mo) : (fewM m).map.length ≤ 205 ∧ (fewM m).tab.length ≤ 205 ∧ (fewM m).row.length ≤ 205 ∧ (fewM m).heap.length ≤ 205 := by
  simp only [fewM, List.length_take]; omega
theorem c_few14 (p : Ph) (m : Mo) (h : m.map.length ≤ p.c1 ∧ m.tab.length ≤ p.c2 ∧ m.row.length ≤ p.c3 ∧ m.heap.length ≤ p.c4) (w : World) :
    FC Try.prog 12 [moV p m] w (Val (moV p (fewM m)) w) := by
  refine FC.intro Try.func12 rfl Try.ntmps12 rfl ?_
  have S := Sub.refl w
  refine RC.seq ?_
  refine RC.region rfl ?_
  refine RL.box rfl rfl rfl (fun b_1 w_1 e_1 z_1 hb_1 s_1 => ?_)
  have ge_1 := S.le e_1
  have S := S.trans s_1
  have hb_1 : Has w_1 b_1 ([.slice p.a1 m.map.length p.c1, .slice p.a2 m.tab.length p.c2, .slice p.a3 m.row.length p.c3, .slice p.a4 m.heap.length p.c4]) _ := hb_1
  refine RL.alloc ze25 rfl rfl (fun b_2 w_2 e_2 z_2 hb_2 s_2 => ?_)
  have ge_2 := S.le e_2
  have n_1__2 := hb_1.ne e_2
  have S := S.trans s_2
  have hb_1 := hb_1.sub s_2
  refine RL.nil (RC.back ?_)
  refine RC.seq ?_
  refine RC.drawD (fun k => k = b_1) [29, 31, 33, 35] w_2.heap.size 36 rfl rfl mxo (fun w1 s2 => ?_)
  have hNN : ∀ k, ((k = b_1) ∨ w_2.heap.size ≤ k) → w.heap.size ≤ k := fun k e => e.elim (fun e => e ▸ ge_1) (fun e => Nat.le_trans S.size e)
  have ent_S := S.size
  have hN0 : ∀ k, w_2.heap.size ≤ k → w.heap.size ≤ k := fun k e => Nat.le_trans S.size e
  have ltD_b_1 := hb_1.lt
  have ltD_b_2 := hb_2.lt
  have szD := Nat.le_refl w_2.heap.size
  have S := S.trans s2
  have hb_1 := hb_1.sub s2
  have hb_2 := hb_2.sub s2
  have szD := Nat.le_trans szD s2.size
  refine RD.take 0 rfl (by kernel_rfl) (by kernel_rfl) (by kernel_rfl) (fun w' s' => .field0 fo25_0 rfl) rfl rfl ?_
  refine RD.takeL 1 rfl (by kernel_rfl) (by kernel_rfl) (by kernel_rfl) (by kernel_rfl) (fun w' s' => .load1 sh22 rfl ((hb_1.step s' (fun e => Nat.not_le.2 ltD_b_1 e)).cell rfl)) rfl rfl ?_
  refine RD.take 2 rfl (by kernel_rfl) (by kernel_rfl) (by kernel_rfl) (fun w' s' => .field0 fo25_0 rfl) rfl rfl ?_
  refine RD.takeL 3 rfl (by kernel_rfl) (by kernel_rfl) (by kernel_rfl) (by kernel_rfl) (fun w' s' => .load1 sh22 rfl ((hb_1.step s' (fun e => Nat.not_le.2 ltD_b_1 e)).cell rfl)) rfl rfl ?_
  refine RD.take 4 rfl (by kernel_rfl) (by kernel_rfl) (by kernel_rfl) (fun w' s' => .len sl22 rfl) rfl rfl ?_
  refine RD.take 5 rfl (by kernel_rfl) (by kernel_rfl) (by kernel_rfl) (fun w' s' => .min2 rfl rfl) rfl rfl ?_
  refine RD.take 6 rfl (by kernel_rfl) (by kernel_rfl) (by kernel_rfl) (fun w' s' => .as (v' := .slice p.a1 (m.map.take 205).length p.c1) (.sliceHi sl22 rfl rfl (by split <;> omega)) (by rw [← few_len]; rfl)) rfl rfl ?_
  refine RD.take 7 rfl (by kernel_rfl) (by kernel_rfl) (by kernel_rfl) (fun w' s' => .field0 fo25_1 rfl) rfl rfl ?_
  refine RD.takeL 8 rfl (by kernel_rfl) (by kernel_rfl) (by kernel_rfl) (by kernel_rfl) (fun w' s' => .load1 sh22 rfl ((hb_1.step s' (fun e => Nat.not_le.2 ltD_b_1 e)).cell rfl)) rfl rfl ?_
  refine RD.take 9 rfl (by kernel_rfl) (by kernel_rfl) (by kernel_rfl) (fun w' s' => .field0 fo25_1 rfl) rfl rfl ?_
  refine RD.takeL 10 rfl (by kernel_rfl) (by kernel_rfl) (by kernel_rfl) (by kernel_rfl) (fun w' s' => .load1 sh22 rfl ((hb_1.step s' (fun e => Nat.not_le.2 ltD_b_1 e)).cell rfl)) rfl rfl ?_
  refine RD.take 11 rfl (by kernel_rfl) (by kernel_rfl) (by kernel_rfl) (fun w' s' => .len sl22 rfl) rfl rfl ?_
  refine RD.take 12 rfl (by kernel_rfl) (by kernel_rfl) (by kernel_rfl) (fun w' s' => .min2 rfl rfl) rfl rfl ?_
  refine RD.take 13 rfl (by kernel_rfl) (by kernel_rfl) (by kernel_rfl) (fun w' s' => .as (v' := .slice p.a2 (m.tab.take 205).length p.c2) (.sliceHi sl22 rfl rfl (by split <;> omega)) (by rw [← few_len]; rfl)) rfl rfl ?_
  refine RD.take 14 rfl (by kernel_rfl) (by kernel_rfl) (by kernel_rfl) (fun w' s' => .field0 fo25_2 rfl) rfl rfl ?_
  refine RD.takeL 15 rfl (by kernel_rfl) (by kernel_rfl) (by kernel_rfl) (by kernel_rfl) (fun w' s' => .load1 sh23 rfl ((hb_1.step s' (fun e => Nat.not_le.2 ltD_b_1 e)).cell rfl)) rfl rfl ?_
  refine RD.take 16 rfl (by kernel_rfl) (by kernel_rfl) (by kernel_rfl) (fun w' s' => .field0 fo25_2 rfl) rfl rfl ?_
  refine RD.takeL 17 rfl (by kernel_rfl) (by kernel_rfl) (by kernel_rfl) (by kernel_rfl) (fun w' s' => .load1 sh23 rfl ((hb_1.step s' (fun e => Nat.not_le.2 ltD_b_1 e)).cell rfl)) rfl rfl ?_
  refine RD.take 18 rfl (by kernel_rfl) (by kernel_rfl) (by kernel_rfl) (fun w' s' => .len sl23 rfl) rfl rfl ?_
  refine RD.take 19 rfl (by kernel_rfl) (by kernel_rfl) (by kernel_rfl) (fun w' s' => .min2 rfl rfl) rfl rfl ?_
  refine RD.take 20 rfl (by kernel_rfl) (by kernel_rfl) (by kernel_rfl) (fun w' s' => .as (v' := .slice p.a3 (m.row.take 205).length p.c3) (.sliceHi sl23 rfl rfl (by split <;> omega)) (by rw [← few_len]; rfl)) rfl rfl ?_
  refine RD.take 21 rfl (by kernel_rfl) (by kernel_rfl) (by kernel_rfl) (fun w' s' => .field0 fo25_3 rfl) rfl rfl ?_
  refine RD.takeL 22 rfl (by kernel_rfl) (by kernel_rfl) (by kernel_rfl) (by kernel_rfl) (fun w' s' => .load1 sh22 rfl ((hb_1.step s' (fun e => Nat.not_le.2 ltD_b_1 e)).cell rfl)) rfl rfl ?_
  refine RD.take 23 rfl (by kernel_rfl) (by kernel_rfl) (by kernel_rfl) (fun w' s' => .field0 fo25_3 rfl) rfl rfl ?_
  refine RD.takeL 24 rfl (by kernel_rfl) (by kernel_rfl) (by kernel_rfl) (by kernel_rfl) (fun w' s' => .load1 sh22 rfl ((hb_1.step s' (fun e => Nat.not_le.2 ltD_b_1 e)).cell rfl)) rfl rfl ?_
  refine RD.take 25 rfl (by kernel_rfl) (by kernel_rfl) (by kernel_rfl) (fun w' s' => .len sl22 rfl) rfl rfl ?_
  refine RD.take 26 rfl (by kernel_rfl) (by kernel_rfl) (by kernel_rfl) (fun w' s' => .min2 rfl rfl) rfl rfl ?_
  refine RD.take 27 rfl (by kernel_rfl) (by kernel_rfl) (by kernel_rfl) (fun w' s' => .as (v' := .slice p.a4 (m.heap.take 205).length p.c4) (.sliceHi sl22 rfl rfl (by split <;> omega)) (by rw [← few_len]; rfl)) rfl rfl ?_
  refine RD.take 28 rfl (by kernel_rfl) (by kernel_rfl) (by kernel_rfl) (fun w' s' => .field0 fo25_0 rfl) rfl rfl ?_
  refine RD.all [29] (by kernel_rfl) rfl (RDs.cons rfl ?_ (RDs.nil))
  refine RL.store sh22 rfl rfl rfl hb_1 (by exact Nat.le_of_ble_eq_true rfl) (by rfl) rfl (fun w3 z3 hb_1 a3 => ?_)
  have S := S.upd a3 ge_1
  have hb_2 := hb_2.upd a3 n_1__2.symm
  have szD := Nat.le_trans szD a3.size
  refine RD.backW rfl (a3.mono fun k _ e => e ▸ (.inl (rfl))) ?_
  refine RD.take 30 rfl (by kernel_rfl) (by kernel_rfl) (by kernel_rfl) (fun w' s' => .field0 fo25_1 rfl) rfl rfl ?_
  refine RD.all [31] (by kernel_rfl) rfl (RDs.cons rfl ?_ (RDs.nil))
  refine RL.store sh22 rfl rfl rfl hb_1 (by exact Nat.le_of_ble_eq_true rfl) (by rfl) rfl (fun w4 z4 hb_1 a4 => ?_)
  have S := S.upd a4 ge_1
  have hb_2 := hb_2.upd a4 n_1__2.symm
  have szD := Nat.le_trans szD a4.size
  refine RD.backW rfl (a4.mono fun k _ e => e ▸ (.inl (rfl))) ?_
  refine RD.take 32 rfl (by kernel_rfl) (by kernel_rfl) (by kernel_rfl) (fun w' s' => .field0 fo25_2 rfl) rfl rfl ?_
  refine RD.all [33] (by kernel_rfl) rfl (RDs.cons rfl ?_ (RDs.nil))
  refine RL.store sh23 rfl rfl rfl hb_1 (by exact Nat.le_of_ble_eq_true rfl) (by rfl) rfl (fun w5 z5 hb_1 a5 => ?_)
  have S := S.upd a5 ge_1
  have hb_2 := hb_2.upd a5 n_1__2.symm
  have szD := Nat.le_trans szD a5.size
  refine RD.backW rfl (a5.mono fun k _ e => e ▸ (.inl (rfl))) ?_
  refine RD.take 34 rfl (by kernel_rfl) (by kernel_rfl) (by kernel_rfl) (fun w' s' => .field0 fo25_3 rfl) rfl rfl ?_
  refine RD.all [35] (by kernel_rfl) rfl (RDs.cons rfl ?_ (RDs.nil))
  refine RL.store sh22 rfl rfl rfl hb_1 (by exact Nat.le_of_ble_eq_true rfl) (by rfl) rfl (fun w6 z6 hb_1 a6 => ?_)
  have S := S.upd a6 ge_1
  have hb_2 := hb_2.upd a6 n_1__2.symm
  have szD := Nat.le_trans szD a6.size
  refine RD.backW rfl (a6.mono fun k _ e => e ▸ (.inl (rfl))) ?_
  refine RD.done (by kernel_rfl) (RC.back ?_)
  refine RC.seq ?_
  refine RC.region rfl ?_
  refine RL.ev (.loadR ([.slice p.a1 (m.map.take 205).length p.c1, .slice p.a2 (m.tab.take 205).length p.c2, .slice p.a3 (m.row.take 205).length p.c3, .slice p.a4 (m.heap.take 205).length p.c4]) sh25 rfl hb_1.row rfl) rfl rfl ?_
  refine RL.store sh25 rfl rfl rfl hb_2 (by exact Nat.le_of_ble_eq_true rfl) (by rfl) rfl (fun w7 z7 hb_2 a7 => ?_)
  have S := S.upd a7 ge_2
  have hb_1 := hb_1.upd a7 n_1__2
  have hb_2 : Has w7 b_2 ([.slice p.a1 (m.map.take 205).length p.c1, .slice p.a2 (m.tab.take 205).length p.c2, .slice p.a3 (m.row.take 205).length p.c3, .slice p.a4 (m.heap.take 205).length p.c4]) _ := hb_2.now (by kernel_rfl)
  refine RL.nil (RC.back ?_)
  refine RC.done (rs := [.cell 2 25]) (vs := [_]) rfl rfl ⟨⟨_, rfl, .inr ⟨[.slice p.a1 (m.map.take 205).length p.c1, .slice p.a2 (m.tab.take 205).length p.c2, .slice p.a3 (m.row.take 205).length p.c3, .slice p.a4 (m.heap.take 205).length p.c4], sh25, hb_2.row, rfl⟩⟩, trivial⟩ ?_
  -- end 1
  exact ⟨rfl, S⟩
def alOps : List OpT := [⟨1, 2, 5, 7⟩, ⟨1, 2, 5, 8⟩]
theorem m0_right : rightM m0 := by
  rw [rightM_iff]
  refine ⟨fun i x y h => by simp [m0] at h, fun x h => by simp [m0] at h, ⟨fun x h => by simp [m0] at h, by decide⟩, ⟨fun x h => by simp [m0] at h, by decide⟩, ⟨fun x h => by simp [m0] at h, by decide⟩, by decide, List.Pairwise.nil, List.Pairwise.nil⟩
theorem c_alive14 (w : World) : FC Try.prog 16 [] w (Val (.bool true) w) := by
  have hok : runOk m0 alOps := ⟨m0_right, by decide⟩
  have h0 := m0_F (fun _ => False) (w := w) (fun k h => h.elim)
  refine FC.intro Try.func16 rfl Try.ntmps16 rfl ?_
  have S := Sub.refl w
  refine RC.seq ?_
  refine RC.region rfl ?_
  refine RL.ev (.assign rfl) rfl rfl ?_
  refine RL.nil (RC.back ?_)
  refine RC.seq ?_
  refine RC.region rfl ?_
  refine RL.ev (.as (v' := moV p0 m0) (.buildS ze25 pl25 rfl rfl) (by rfl)) rfl rfl ?_
  refine RL.ev (.as (v' := .agg #[.int .i64 1, .int .i64 2, .int .i64 5, .int .i64 7]) (.buildS ze34 pl34 rfl rfl) (by rfl)) rfl rfl ?_
  refine RL.ev (.as (v' := .agg #[.int .i64 1, .int .i64 2, .int .i64 5, .int .i64 8]) (.buildS ze34 pl34 rfl rfl) (by rfl)) rfl rfl ?_
  refine RL.buildSliceN (vs := [_, _]) sl26 _ ze34 rfl ⟨rfl, rfl, trivial⟩ rfl rfl rfl rfl rfl rfl (fun b_8 w_8 e_8 z_8 hb_8 s_8 => ?_)
  have ge_8 := S.le e_8
  have d_h0_b_8 := h0.neNew e_8
  have S := S.trans s_8
  have h0 := h0.sub s_8
  refine RL.call rfl ok13 (c_Run p0 m0 m0_S alOps (some ⟨b_8, 0, none⟩) 2 2 rfl (by decide) w_8 _ h0 (Has.sl0 (rows := alOps.map OpT.cells) hb_8 (by intro r hr; obtain ⟨x, _, rfl⟩ := List.mem_map.1 hr; rfl))) rfl rfl ?_
  rintro _ w1 ⟨s2, hr9⟩
  obtain ⟨_, p', M', a', c', rfl, hs', hF', hup, ho9, _⟩ := hr9.resolve_right (fun e => e.1 hok)
  have S := S.trans s2
  have h0 := h0.sub s2
  have hb_8 := hb_8.sub s2
  have hsl := ho9.sl.1
  obtain ⟨W9, hW9⟩ : ∃ W, W = w1 := ⟨_, rfl⟩
  have S9 : Sub W9 w1 := hW9 ▸ Sub.refl _
  rw [← hW9] at hsl
  refine RL.ev (.move rfl) rfl rfl ?_
  refine RL.ev (.extract rfl rfl) rfl rfl ?_
  refine RL.ev (.extract rfl rfl) rfl rfl ?_
  refine RL.ev (.extract rfl rfl) rfl rfl ?_
  refine RL.alloc ze25 rfl rfl (fun b_1 w_1 e_1 z_1 hb_1 s_1 => ?_)
  have ge_1 := S.le e_1
  have n_8__1 := hb_8.ne e_1
  have d_h0_b_1 := h0.neNew e_1
  have S := S.trans s_1
  have h0 := h0.sub s_1
  have hb_8 := hb_8.sub s_1
  have geS9_1 := S9.le e_1
  have S9 := S9.trans s_1
  refine RL.store sh25 rfl rfl rfl hb_1 (by exact Nat.le_of_ble_eq_true rfl) (by rfl) rfl (fun w3 z3 hb_1 a3 => ?_)
  have S := S.upd a3 ge_1
  have h0 := h0.updD a3 d_h0_b_1
  have hb_8 := hb_8.upd a3 n_8__1
  have S9 := S9.upd a3 geS9_1
  refine RL.ev (.assign rfl) rfl rfl ?_
  refine RL.ev (.assign rfl) rfl rfl ?_
  refine RL.nil (RC.back ?_)
  refine RC.seq ?_
  refine RC.region rfl ?_
  refine RL.ev (.move rfl) rfl rfl ?_
  refine RL.ev (.as (v' := .bool true) (.bin rfl rfl rfl) (congrArg Value.bool (decide_eq_true (rfl)))) rfl rfl ?_
  refine RL.ev (.move rfl) rfl rfl ?_
  refine RL.ev (.move rfl) rfl rfl ?_
  refine RL.ev (.len sl28 rfl) rfl rfl ?_
  refine RL.ev (.as (v' := .bool true) (.bin rfl rfl rfl) (congrArg Value.bool (decide_eq_true (rfl)))) rfl rfl ?_
  refine RL.ev (.pick_t rfl rfl) rfl rfl ?_
  refine RL.ev (.move rfl) rfl rfl ?_
  refine RL.ev (.move rfl) rfl rfl ?_
  refine RL.ev (.indexS sl28 rfl rfl (by rw [List.length_map, runM_len]; decide) (hsl.is (i := 1) (by rw [List.length_map, runM_len]; decide))) rfl rfl ?_
  refine RL.ev (.loadR ((⟨0, 1, 7⟩ : ResT).cells) sh39 rfl ((hsl.sub S9).rowAt (enc := ResT.cells) (i := 1) (x := ⟨0, 1, 7⟩) rfl) rfl) rfl rfl ?_
  refine RL.ev (.as (v' := .agg (⟨0, 1, 7⟩ : ResT).cells.toArray) (.buildS ze39 pl39 rfl rfl) (by rfl)) rfl rfl ?_
  refine RL.ev (.as (v' := .bool true) (.eqS (xs := (⟨0, 1, 7⟩ : ResT).cells) (ys := (⟨0, 1, 7⟩ : ResT).cells) fk39 eg39 sh39 rfl rfl rfl rfl rfl) (congrArg Value.bool (by rfl))) rfl rfl ?_
  refine RL.ev (.pick_t rfl rfl) rfl rfl ?_
  refine RL.ev (.assign rfl) rfl rfl ?_
  refine RL.nil (RC.back ?_)
  refine RC.done (rs := [.tmp 0]) (vs := [_]) rfl rfl ⟨rfl, trivial⟩ ?_
  -- end 1
  exact ⟨rfl, S⟩
end Go.Proofs.Ytjafbffehmombaa
