/-
  The package model: which contents may be; the same of the reference.
-/
import Derived.Test.YtjafbffehmombaaSlices
set_option linter.unusedVariables false
set_option linter.unusedSimpArgs false
namespace Go.Proofs.Ytjafbffehmombaa
open Go Go.XL

theorem c_indexIt (g : FuncId) (hg : calleeOK Try.prog g = true) (cs : List Value) (q : It → Bool) (l : List It) (a : Option Addr) (c m : Nat) (hm : m = l.length) (w : World) (hn : ∀ x ∈ l, ∀ w', Sub w w' → FC Try.prog g ([x.val] ++ cs) w' (Val (.bool (q x)) w')) (hl : Sl w a 2 (l.map It.cells)) (hb : l.length ≤ 1000000) :
    FC Try.prog 58 [.slice a m c, .func (.func g) #[] cs.toArray] w (fun u w' => Sub w w' ∧ ∃ n, u = .int .i64 n ∧ (n < 0 ∧ l.any q = false ∨ 0 ≤ n ∧ l.any q = true)) := by
  subst hm
  refine FC.intro Try.func58 rfl Try.ntmps58 rfl ?_
  have S := Sub.refl w
  refine RC.seq ?_
  refine RC.region rfl ?_
  refine RL.ev (.assign rfl) rfl rfl ?_
  refine RL.nil (RC.back ?_)
  refine RC.seq ?_
  refine RC.seq ?_
  refine RC.region rfl ?_
  refine RL.ev (.move rfl) rfl rfl ?_
  refine RL.ev (.len sl22 rfl) rfl rfl ?_
  refine RL.ev (.move rfl) rfl rfl ?_
  refine RL.nil (RC.back ?_)
  refine RC.block ?_
  refine RC.loop (α := Nat) (fun i => [(0, .slice a l.length c), (1, .func (.func g) #[] cs.toArray), (7, .int .i64 (l.length : Int)), (8, .int .i64 (i : Int))]) (fun i w1 => (i ≤ l.length ∧ ∀ x ∈ l.take i, q x = false) ∧ Sub w w1) (fun i => l.length - i) 0 (keep_of (by repeat (first | exact trivial | refine And.intro rfl ?_))) (⟨⟨Nat.zero_le _, by simp⟩, S⟩) (fun i w1 hJ => ?_)
  obtain ⟨⟨hi, hp⟩, S⟩ := hJ
  refine RC.seq ?_
  refine RC.region rfl ?_
  refine RL.ev (.bin rfl rfl rfl) rfl rfl ?_
  refine RL.nil (RC.back ?_)
  refine RC.seq ?_
  refine RC.cond_dec rfl (fun h2 => ?_) (fun h2 => ?_)
  ·
    obtain ⟨x, hx⟩ := getSome (l := l) (i := i) (by omega)
    have hxm := List.mem_of_getElem? hx
    refine RC.skip (RC.back ?_)
    refine RC.seq ?_
    refine RC.block ?_
    refine RC.seq ?_
    refine RC.region rfl ?_
    refine RL.ev (.move rfl) rfl rfl ?_
    refine RL.ev (.assign rfl) rfl rfl ?_
    refine RL.nil (RC.back ?_)
    refine RC.seq ?_
    refine RC.region rfl ?_
    refine RL.ev (.move rfl) rfl rfl ?_
    refine RL.ev (.move rfl) rfl rfl ?_
    refine RL.ev (.move rfl) rfl rfl ?_
    refine RL.ev (.indexS sl22 rfl rfl (by omega) (hl.is (i := 0) (by simp only [List.length_map, List.length_cons, List.length_nil]; omega))) rfl rfl ?_
    refine RL.ev (.loadR (x.cells) sh45 rfl ((hl.sub S).rowAt (enc := It.cells) (i := i) hx) rfl) rfl rfl ?_
    refine RL.callv rfl rfl (us := []) (cs := cs) hg (hn x hxm w1 S) rfl rfl ?_
    rintro _ w3 ⟨rfl, s4⟩
    have S := S.trans s4
    refine RL.nil (RC.back ?_)
    refine RC.cond rfl (fun h5 => ?_) (fun h5 => ?_)
    ·
      have h16 : q x = true := h5
      refine RC.seq ?_
      refine RC.region rfl ?_
      refine RL.ev (.move rfl) rfl rfl ?_
      refine RL.ev (.assign rfl) rfl rfl ?_
      refine RL.nil (RC.back ?_)
      refine RC.done (rs := [.tmp 4]) (vs := [_]) rfl rfl ⟨rfl, trivial⟩ ?_
      -- end 1
      exact ⟨S, _, rfl, .inr ⟨by omega, List.any_eq_true.2 ⟨x, hxm, h16⟩⟩⟩
    ·
      have h16 : q x = false := h5
      refine RC.skip (RC.back ?_)
      refine RC.region rfl ?_
      refine RL.ev (.as (.bin rfl rfl rfl) (wi64 (y := ((i + 1 : Nat) : Int)) (by omega) (by omega))) rfl rfl ?_
      refine RL.ev (.move rfl) rfl rfl ?_
      exact RL.nil (fun a ka => ⟨i + 1, ⟨⟨by omega, fun z hz => by rw [List.take_add_one, hx] at hz; rcases List.mem_append.1 hz with hz | hz; exact hp z hz; have e : z = x := (by simpa using hz); rw [e]; exact h16⟩, S⟩, by omega, ka.keep (keep_of (by repeat (first | exact trivial | refine And.intro rfl ?_)))⟩)
  ·
    obtain rfl : i = l.length := (by omega)
    rw [List.take_length] at hp
    refine RC.exit rfl (RC.back ?_)
    refine RC.seq ?_
    refine RC.region rfl ?_
    refine RL.ev (.assign rfl) rfl rfl ?_
    refine RL.nil (RC.back ?_)
    refine RC.done (rs := [.tmp 4]) (vs := [_]) rfl rfl ⟨rfl, trivial⟩ ?_
    -- end 2
    exact ⟨S, _, rfl, .inl ⟨by decide, List.any_eq_false.2 fun z hz => by rw [hp z hz]; simp⟩⟩
theorem c_containsIt (g : FuncId) (hg : calleeOK Try.prog g = true) (cs : List Value) (q : It → Bool) (l : List It) (a : Option Addr) (c m : Nat) (hm : m = l.length) (w : World) (hn : ∀ x ∈ l, ∀ w', Sub w w' → FC Try.prog g ([x.val] ++ cs) w' (Val (.bool (q x)) w')) (hl : Sl w a 2 (l.map It.cells)) (hb : l.length ≤ 1000000) :
    FC Try.prog 42 [.slice a m c, .func (.func g) #[] cs.toArray] w (Val (.bool (l.any q)) w) := by
  subst hm
  refine FC.intro Try.func42 rfl Try.ntmps42 rfl ?_
  have S := Sub.refl w
  refine RC.seq ?_
  refine RC.region rfl ?_
  refine RL.ev (.assign rfl) rfl rfl ?_
  refine RL.nil (RC.back ?_)
  refine RC.seq ?_
  refine RC.region rfl ?_
  refine RL.ev (.move rfl) rfl rfl ?_
  refine RL.ev (.move rfl) rfl rfl ?_
  refine RL.call rfl ok58 (c_indexIt g hg cs q l a c _ rfl w (fun x hx w' s => hn x hx w' (S.trans s)) (hl.sub S) hb) rfl rfl ?_
  rintro _ w1 ⟨s2, n, rfl, hn7⟩
  have S := S.trans s2
  refine RL.ev (.bin rfl rfl rfl) rfl rfl ?_
  refine RL.ev (.assign rfl) rfl rfl ?_
  refine RL.nil (RC.back ?_)
  refine RC.done (rs := [.tmp 4]) (vs := [_]) rfl rfl ⟨rfl, trivial⟩ ?_
  -- end 1
  rcases hn7 with ⟨h1, h2⟩ | ⟨h1, h2⟩
  rw [h2]
  exact ⟨congrArg Value.bool (decide_eq_false (by omega)), S⟩
  rw [h2]
  exact ⟨congrArg Value.bool (decide_eq_true (by omega)), S⟩
theorem c_indexOp (g : FuncId) (hg : calleeOK Try.prog g = true) (cs : List Value) (q : OpT → Bool) (l : List OpT) (a : Option Addr) (c m : Nat) (hm : m = l.length) (w : World) (hn : ∀ x ∈ l, ∀ w', Sub w w' → FC Try.prog g ([.agg x.cells.toArray] ++ cs) w' (Val (.bool (q x)) w')) (hl : Sl w a 4 (l.map OpT.cells)) (hb : l.length ≤ 1000000) :
    FC Try.prog 47 [.slice a m c, .func (.func g) #[] cs.toArray] w (fun u w' => Sub w w' ∧ ∃ n, u = .int .i64 n ∧ (n < 0 ∧ l.any q = false ∨ 0 ≤ n ∧ l.any q = true)) := by
  subst hm
  refine FC.intro Try.func47 rfl Try.ntmps47 rfl ?_
  have S := Sub.refl w
  refine RC.seq ?_
  refine RC.region rfl ?_
  refine RL.ev (.assign rfl) rfl rfl ?_
  refine RL.nil (RC.back ?_)
  refine RC.seq ?_
  refine RC.seq ?_
  refine RC.region rfl ?_
  refine RL.ev (.move rfl) rfl rfl ?_
  refine RL.ev (.len sl26 rfl) rfl rfl ?_
  refine RL.ev (.move rfl) rfl rfl ?_
  refine RL.nil (RC.back ?_)
  refine RC.block ?_
  refine RC.loop (α := Nat) (fun i => [(0, .slice a l.length c), (1, .func (.func g) #[] cs.toArray), (7, .int .i64 (l.length : Int)), (8, .int .i64 (i : Int))]) (fun i w1 => (i ≤ l.length ∧ ∀ x ∈ l.take i, q x = false) ∧ Sub w w1) (fun i => l.length - i) 0 (keep_of (by repeat (first | exact trivial | refine And.intro rfl ?_))) (⟨⟨Nat.zero_le _, by simp⟩, S⟩) (fun i w1 hJ => ?_)
  obtain ⟨⟨hi, hp⟩, S⟩ := hJ
  refine RC.seq ?_
  refine RC.region rfl ?_
  refine RL.ev (.bin rfl rfl rfl) rfl rfl ?_
  refine RL.nil (RC.back ?_)
  refine RC.seq ?_
  refine RC.cond_dec rfl (fun h2 => ?_) (fun h2 => ?_)
  ·
    obtain ⟨x, hx⟩ := getSome (l := l) (i := i) (by omega)
    have hxm := List.mem_of_getElem? hx
    refine RC.skip (RC.back ?_)
    refine RC.seq ?_
    refine RC.block ?_
    refine RC.seq ?_
    refine RC.region rfl ?_
    refine RL.ev (.move rfl) rfl rfl ?_
    refine RL.ev (.assign rfl) rfl rfl ?_
    refine RL.nil (RC.back ?_)
    refine RC.seq ?_
    refine RC.region rfl ?_
    refine RL.ev (.move rfl) rfl rfl ?_
    refine RL.ev (.move rfl) rfl rfl ?_
    refine RL.ev (.move rfl) rfl rfl ?_
    refine RL.ev (.indexS sl26 rfl rfl (by omega) (hl.is (i := 0) (by simp only [List.length_map, List.length_cons, List.length_nil]; omega))) rfl rfl ?_
    refine RL.ev (.loadR (x.cells) sh34 rfl ((hl.sub S).rowAt (enc := OpT.cells) (i := i) hx) rfl) rfl rfl ?_
    refine RL.callv rfl rfl (us := []) (cs := cs) hg (hn x hxm w1 S) rfl rfl ?_
    rintro _ w3 ⟨rfl, s4⟩
    have S := S.trans s4
    refine RL.nil (RC.back ?_)
    refine RC.cond rfl (fun h5 => ?_) (fun h5 => ?_)
    ·
      have h16 : q x = true := h5
      refine RC.seq ?_
      refine RC.region rfl ?_
      refine RL.ev (.move rfl) rfl rfl ?_
      refine RL.ev (.assign rfl) rfl rfl ?_
      refine RL.nil (RC.back ?_)
      refine RC.done (rs := [.tmp 4]) (vs := [_]) rfl rfl ⟨rfl, trivial⟩ ?_
      -- end 1
      exact ⟨S, _, rfl, .inr ⟨by omega, List.any_eq_true.2 ⟨x, hxm, h16⟩⟩⟩
    ·
      have h16 : q x = false := h5
      refine RC.skip (RC.back ?_)
      refine RC.region rfl ?_
      refine RL.ev (.as (.bin rfl rfl rfl) (wi64 (y := ((i + 1 : Nat) : Int)) (by omega) (by omega))) rfl rfl ?_
      refine RL.ev (.move rfl) rfl rfl ?_
      exact RL.nil (fun a ka => ⟨i + 1, ⟨⟨by omega, fun z hz => by rw [List.take_add_one, hx] at hz; rcases List.mem_append.1 hz with hz | hz; exact hp z hz; have e : z = x := (by simpa using hz); rw [e]; exact h16⟩, S⟩, by omega, ka.keep (keep_of (by repeat (first | exact trivial | refine And.intro rfl ?_)))⟩)
  ·
    obtain rfl : i = l.length := (by omega)
    rw [List.take_length] at hp
    refine RC.exit rfl (RC.back ?_)
    refine RC.seq ?_
    refine RC.region rfl ?_
    refine RL.ev (.assign rfl) rfl rfl ?_
    refine RL.nil (RC.back ?_)
    refine RC.done (rs := [.tmp 4]) (vs := [_]) rfl rfl ⟨rfl, trivial⟩ ?_
    -- end 2
    exact ⟨S, _, rfl, .inl ⟨by decide, List.any_eq_false.2 fun z hz => by rw [hp z hz]; simp⟩⟩
theorem c_containsOp (g : FuncId) (hg : calleeOK Try.prog g = true) (cs : List Value) (q : OpT → Bool) (l : List OpT) (a : Option Addr) (c m : Nat) (hm : m = l.length) (w : World) (hn : ∀ x ∈ l, ∀ w', Sub w w' → FC Try.prog g ([.agg x.cells.toArray] ++ cs) w' (Val (.bool (q x)) w')) (hl : Sl w a 4 (l.map OpT.cells)) (hb : l.length ≤ 1000000) :
    FC Try.prog 23 [.slice a m c, .func (.func g) #[] cs.toArray] w (Val (.bool (l.any q)) w) := by
  subst hm
  refine FC.intro Try.func23 rfl Try.ntmps23 rfl ?_
  have S := Sub.refl w
  refine RC.seq ?_
  refine RC.region rfl ?_
  refine RL.ev (.assign rfl) rfl rfl ?_
  refine RL.nil (RC.back ?_)
  refine RC.seq ?_
  refine RC.region rfl ?_
  refine RL.ev (.move rfl) rfl rfl ?_
  refine RL.ev (.move rfl) rfl rfl ?_
  refine RL.call rfl ok47 (c_indexOp g hg cs q l a c _ rfl w (fun x hx w' s => hn x hx w' (S.trans s)) (hl.sub S) hb) rfl rfl ?_
  rintro _ w1 ⟨s2, n, rfl, hn7⟩
  have S := S.trans s2
  refine RL.ev (.bin rfl rfl rfl) rfl rfl ?_
  refine RL.ev (.assign rfl) rfl rfl ?_
  refine RL.nil (RC.back ?_)
  refine RC.done (rs := [.tmp 4]) (vs := [_]) rfl rfl ⟨rfl, trivial⟩ ?_
  -- end 1
  rcases hn7 with ⟨h1, h2⟩ | ⟨h1, h2⟩
  rw [h2]
  exact ⟨congrArg Value.bool (decide_eq_false (by omega)), S⟩
  rw [h2]
  exact ⟨congrArg Value.bool (decide_eq_true (by omega)), S⟩
/-! ### what the containers hold -/
structure Mo where
  map : List It
  tab : List It
  row : List Int
  heap : List It
/-- where it lies -/
structure Ph where
  a1 : Option Addr
  c1 : Nat
  a2 : Option Addr
  c2 : Nat
  a3 : Option Addr
  c3 : Nat
  a4 : Option Addr
  c4 : Nat
def moC (p : Ph) (m : Mo) : List Value := [.slice p.a1 m.map.length p.c1, .slice p.a2 m.tab.length p.c2, .slice p.a3 m.row.length p.c3, .slice p.a4 m.heap.length p.c4]
def moV (p : Ph) (m : Mo) : Value := .agg (moC p m).toArray
structure MoR (w : World) (p : Ph) (m : Mo) : Prop where
  h1 : Sl w p.a1 2 (m.map.map It.cells)
  h2 : Sl w p.a2 2 (m.tab.map It.cells)
  h3 : Sl w p.a3 1 (m.row.map fun x => [i6 x])
  h4 : Sl w p.a4 2 (m.heap.map It.cells)
structure MoS (p : Ph) (m : Mo) : Prop where
  k1 : m.map.length ≤ p.c1
  k2 : m.tab.length ≤ p.c2
  k3 : m.row.length ≤ p.c3
  k4 : m.heap.length ≤ p.c4
  l1 : m.map.length ≤ 1000
  l2 : m.tab.length ≤ 1000
  l3 : m.row.length ≤ 1000
  l4 : m.heap.length ≤ 1000
theorem MoR.sub {w w' : World} {p : Ph} {m : Mo} (h : MoR w p m) (s : Sub w w') : MoR w' p m := ⟨h.h1.sub s, h.h2.sub s, h.h3.sub s, h.h4.sub s⟩
def upB (x y : It) : Bool := decide (x.k < y.k)
def leB (x y : It) : Bool := decide (¬ lessP y x)
def rightM (m : Mo) : Prop := keysP upB m.map ∧ keysP upB m.tab ∧ (∀ x ∈ m.tab, crowdL m.tab x.k ≤ 9) ∧ m.row.length ≤ 200 ∧ keysP leB m.heap
theorem c_crowded (b1 : Nat) (p : Ph) (m : Mo) (hs : MoS p m) (x : It) (w : World) (hb : Has w b1 (moC p m) 25) (hr : MoR w p m) :
    FC Try.prog 39 [x.val, .pointer (some ⟨b1, 0, none⟩)] w (Val (.bool (decide (9 < crowdL m.tab x.k))) w) := by
  have l2 := hs.l2
  refine FC.intro Try.func39 rfl Try.ntmps39 rfl ?_
  have S := Sub.refl w
  refine RC.seq ?_
  refine RC.region rfl ?_
  refine RL.box rfl rfl rfl (fun b_2 w_2 e_2 z_2 hb_2 s_2 => ?_)
  have ge_2 := S.le e_2
  have n1__2 := hb.ne e_2
  have S := S.trans s_2
  have hb := hb.sub s_2
  have hb_2 : Has w_2 b_2 ([.int .i64 x.k, .int .i64 x.v]) _ := hb_2
  refine RL.ev (.assign rfl) rfl rfl ?_
  refine RL.nil (RC.back ?_)
  refine RC.seq ?_
  refine RC.region rfl ?_
  refine RL.ev (.field0 fo25_1 rfl) rfl rfl ?_
  refine RL.ev (.load1 sh22 rfl (hb.cell rfl)) rfl rfl ?_
  refine RL.ev (.field0 fo45_0 rfl) rfl rfl ?_
  refine RL.ev (.load1 sh2 rfl (hb_2.cell rfl)) rfl rfl ?_
  refine RL.call rfl ok40 (c_crowd m.tab p.a2 p.c2 _ rfl x.k w_2 (hr.h2.sub S) (by omega)) rfl rfl ?_
  rintro _ w1 ⟨rfl, s2⟩
  have S := S.trans s2
  have hb := hb.sub s2
  have hb_2 := hb_2.sub s2
  refine RL.ev (.bin rfl rfl rfl) rfl rfl ?_
  refine RL.ev (.assign rfl) rfl rfl ?_
  refine RL.nil (RC.back ?_)
  refine RC.done (rs := [.tmp 3]) (vs := [_]) rfl rfl ⟨rfl, trivial⟩ ?_
  -- end 1
  exact ⟨congrArg Value.bool (decide_eq_decide.2 (by omega)), S⟩
theorem c_right (p : Ph) (m : Mo) (hs : MoS p m) (w : World) (hr : MoR w p m) : FC Try.prog 19 [moV p m] w (Val (.bool (pB (rightM m))) w) := by
  have l1 := hs.l1
  have l2 := hs.l2
  have l3 := hs.l3
  have l4 := hs.l4
  refine FC.intro Try.func19 rfl Try.ntmps19 rfl ?_
  have S := Sub.refl w
  refine RC.seq ?_
  refine RC.region rfl ?_
  refine RL.box rfl rfl rfl (fun b_1 w_1 e_1 z_1 hb_1 s_1 => ?_)
  have ge_1 := S.le e_1
  have S := S.trans s_1
  have hb_1 : Has w_1 b_1 ([.slice p.a1 m.map.length p.c1, .slice p.a2 m.tab.length p.c2, .slice p.a3 m.row.length p.c3, .slice p.a4 m.heap.length p.c4]) _ := hb_1
  refine RL.ev (.assign rfl) rfl rfl ?_
  refine RL.nil (RC.back ?_)
  refine RC.seq ?_
  refine RC.region rfl ?_
  refine RL.ev (.assign rfl) rfl rfl ?_
  refine RL.nil (RC.back ?_)
  refine RC.seq ?_
  refine RC.region rfl ?_
  refine RL.ev (.func (xs := []) (ys := [_]) rfl rfl) rfl rfl ?_
  refine RL.ev (.assign rfl) rfl rfl ?_
  refine RL.nil (RC.back ?_)
  refine RC.seq ?_
  refine RC.region rfl ?_
  refine RL.ev (.field0 fo25_0 rfl) rfl rfl ?_
  refine RL.ev (.load1 sh22 rfl (hb_1.cell rfl)) rfl rfl ?_
  refine RL.ev (.move rfl) rfl rfl ?_
  refine RL.call rfl ok41 (c_keys 38 ok38 upB c_up m.map p.a1 p.c1 _ rfl w_1 (hr.h1.sub S) (by omega)) rfl rfl ?_
  rintro _ w1 ⟨rfl, s2⟩
  have S := S.trans s2
  have hb_1 := hb_1.sub s2
  refine RL.ev (.move rfl) rfl rfl ?_
  refine RL.splitB 10 rfl (fun h3 => ?_) (fun h3 => ?_)
  ·
    have g10 := pB_iff.1 h3
    refine RL.ev (.field0 fo25_1 rfl) rfl rfl ?_
    refine RL.ev (.load1 sh22 rfl (hb_1.cell rfl)) rfl rfl ?_
    refine RL.ev (.move rfl) rfl rfl ?_
    refine RL.call rfl ok41 (c_keys 38 ok38 upB c_up m.tab p.a2 p.c2 _ rfl w1 (hr.h2.sub S) (by omega)) rfl rfl ?_
    rintro _ w4 ⟨rfl, s5⟩
    have S := S.trans s5
    have hb_1 := hb_1.sub s5
    refine RL.ev (.pick_t rfl rfl) rfl rfl ?_
    refine RL.ev (.move rfl) rfl rfl ?_
    refine RL.splitB 16 rfl (fun h6 => ?_) (fun h6 => ?_)
    ·
      have g16 := pB_iff.1 h6
      refine RL.ev (.field0 fo25_1 rfl) rfl rfl ?_
      refine RL.ev (.load1 sh22 rfl (hb_1.cell rfl)) rfl rfl ?_
      refine RL.ev (.move rfl) rfl rfl ?_
      refine RL.call rfl ok42 (c_containsIt 39 ok39 [.pointer (some ⟨b_1, 0, none⟩)] (fun x => decide (9 < crowdL m.tab x.k)) m.tab p.a2 p.c2 _ rfl w4 (fun x _ w' s => c_crowded b_1 p m hs x w' (hb_1.sub s) ((hr.sub S).sub s)) (hr.h2.sub S) (by omega)) rfl rfl ?_
      rintro _ w7 ⟨rfl, s8⟩
      have S := S.trans s8
      have hb_1 := hb_1.sub s8
      refine RL.ev (.not rfl) rfl rfl ?_
      refine RL.ev (.pick_t rfl rfl) rfl rfl ?_
      refine RL.ev (.move rfl) rfl rfl ?_
      refine RL.splitB 23 rfl (fun h9 => ?_) (fun h9 => ?_)
      ·
        have g23 : ∀ x ∈ m.tab, crowdL m.tab x.k ≤ 9 := (fun x hx => by have q := h9; rw [Bool.not_eq_true', List.any_eq_false] at q; have := q x hx; simp at this; omega)
        refine RL.ev (.field0 fo25_2 rfl) rfl rfl ?_
        refine RL.ev (.load1 sh23 rfl (hb_1.cell rfl)) rfl rfl ?_
        refine RL.ev (.len sl23 rfl) rfl rfl ?_
        refine RL.ev (.bin rfl rfl rfl) rfl rfl ?_
        refine RL.ev (.pick_t rfl rfl) rfl rfl ?_
        refine RL.ev (.move rfl) rfl rfl ?_
        refine RL.split 29 rfl (fun h10 => ?_) (fun h10 => ?_)
        ·
          have g29 : m.row.length ≤ 200 := (by omega)
          refine RL.ev (.field0 fo25_3 rfl) rfl rfl ?_
          refine RL.ev (.load1 sh22 rfl (hb_1.cell rfl)) rfl rfl ?_
          refine RL.call rfl ok41 (c_keys 43 ok43 leB c_le3 m.heap p.a4 p.c4 _ rfl w7 (hr.h4.sub S) (by omega)) rfl rfl ?_
          rintro _ w11 ⟨rfl, s12⟩
          have S := S.trans s12
          have hb_1 := hb_1.sub s12
          refine RL.ev (.pick_t rfl rfl) rfl rfl ?_
          refine RL.ev (.assign rfl) rfl rfl ?_
          refine RL.nil (RC.back ?_)
          refine RC.done (rs := [.tmp 2]) (vs := [_]) rfl rfl ⟨rfl, trivial⟩ ?_
          -- end 1
          refine ⟨congrArg Value.bool ?_, S⟩
          first | exact (pB_no (fun e => absurd e.1 g10)).symm | exact (pB_no (fun e => absurd e.2.1 g16)).symm | exact (pB_no (fun e => absurd e.2.2.1 g23)).symm | exact (pB_no (fun e => absurd e.2.2.2.1 g29)).symm | exact pB_congr ⟨fun h => ⟨g10, g16, g23, g29, h⟩, fun h => h.2.2.2.2⟩
        ·
          have g29 : ¬ m.row.length ≤ 200 := (by omega)
          refine RL.off rfl rfl ?_
          refine RL.off rfl rfl ?_
          refine RL.off rfl rfl ?_
          refine RL.ev (.pick_f rfl rfl) rfl rfl ?_
          refine RL.ev (.assign rfl) rfl rfl ?_
          refine RL.nil (RC.back ?_)
          refine RC.done (rs := [.tmp 2]) (vs := [_]) rfl rfl ⟨rfl, trivial⟩ ?_
          -- end 2
          refine ⟨congrArg Value.bool ?_, S⟩
          first | exact (pB_no (fun e => absurd e.1 g10)).symm | exact (pB_no (fun e => absurd e.2.1 g16)).symm | exact (pB_no (fun e => absurd e.2.2.1 g23)).symm | exact (pB_no (fun e => absurd e.2.2.2.1 g29)).symm | exact pB_congr ⟨fun h => ⟨g10, g16, g23, g29, h⟩, fun h => h.2.2.2.2⟩
      ·
        have g23 : ¬ ∀ x ∈ m.tab, crowdL m.tab x.k ≤ 9 := (fun e => by have q := h9; rw [Bool.not_eq_false', List.any_eq_true] at q; obtain ⟨x, hx, hx2⟩ := q; have := e x hx; simp at hx2; omega)
        refine RL.off rfl rfl ?_
        refine RL.off rfl rfl ?_
        refine RL.off rfl rfl ?_
        refine RL.off rfl rfl ?_
        refine RL.ev (.pick_f rfl rfl) rfl rfl ?_
        refine RL.ev (.move rfl) rfl rfl ?_
        refine RL.off rfl rfl ?_
        refine RL.off rfl rfl ?_
        refine RL.off rfl rfl ?_
        refine RL.ev (.pick_f rfl rfl) rfl rfl ?_
        refine RL.ev (.assign rfl) rfl rfl ?_
        refine RL.nil (RC.back ?_)
        refine RC.done (rs := [.tmp 2]) (vs := [_]) rfl rfl ⟨rfl, trivial⟩ ?_
        -- end 3
        refine ⟨congrArg Value.bool ?_, S⟩
        first | exact (pB_no (fun e => absurd e.1 g10)).symm | exact (pB_no (fun e => absurd e.2.1 g16)).symm | exact (pB_no (fun e => absurd e.2.2.1 g23)).symm | exact (pB_no (fun e => absurd e.2.2.2.1 g29)).symm | exact pB_congr ⟨fun h => ⟨g10, g16, g23, g29, h⟩, fun h => h.2.2.2.2⟩
    ·
      have g16 : ¬ keysP upB m.tab := (fun e => by rw [pB_yes e] at h6; cases h6)
      refine RL.off rfl rfl ?_
      refine RL.off rfl rfl ?_
      refine RL.off rfl rfl ?_
      refine RL.off rfl rfl ?_
      refine RL.off rfl rfl ?_
      refine RL.ev (.pick_f rfl rfl) rfl rfl ?_
      refine RL.ev (.move rfl) rfl rfl ?_
      refine RL.off rfl rfl ?_
      refine RL.off rfl rfl ?_
      refine RL.off rfl rfl ?_
      refine RL.off rfl rfl ?_
      refine RL.ev (.pick_f rfl rfl) rfl rfl ?_
      refine RL.ev (.move rfl) rfl rfl ?_
      refine RL.off rfl rfl ?_
      refine RL.off rfl rfl ?_
      refine RL.off rfl rfl ?_
      refine RL.ev (.pick_f rfl rfl) rfl rfl ?_
      refine RL.ev (.assign rfl) rfl rfl ?_
      refine RL.nil (RC.back ?_)
      refine RC.done (rs := [.tmp 2]) (vs := [_]) rfl rfl ⟨rfl, trivial⟩ ?_
      -- end 4
      refine ⟨congrArg Value.bool ?_, S⟩
      first | exact (pB_no (fun e => absurd e.1 g10)).symm | exact (pB_no (fun e => absurd e.2.1 g16)).symm | exact (pB_no (fun e => absurd e.2.2.1 g23)).symm | exact (pB_no (fun e => absurd e.2.2.2.1 g29)).symm | exact pB_congr ⟨fun h => ⟨g10, g16, g23, g29, h⟩, fun h => h.2.2.2.2⟩
  ·
    have g10 : ¬ keysP upB m.map := (fun e => by rw [pB_yes e] at h3; cases h3)
    refine RL.off rfl rfl ?_
    refine RL.off rfl rfl ?_
    refine RL.off rfl rfl ?_
    refine RL.off rfl rfl ?_
    refine RL.ev (.pick_f rfl rfl) rfl rfl ?_
    refine RL.ev (.move rfl) rfl rfl ?_
    refine RL.off rfl rfl ?_
    refine RL.off rfl rfl ?_
    refine RL.off rfl rfl ?_
    refine RL.off rfl rfl ?_
    refine RL.off rfl rfl ?_
    refine RL.ev (.pick_f rfl rfl) rfl rfl ?_
    refine RL.ev (.move rfl) rfl rfl ?_
    refine RL.off rfl rfl ?_
    refine RL.off rfl rfl ?_
    refine RL.off rfl rfl ?_
    refine RL.off rfl rfl ?_
    refine RL.ev (.pick_f rfl rfl) rfl rfl ?_
    refine RL.ev (.move rfl) rfl rfl ?_
    refine RL.off rfl rfl ?_
    refine RL.off rfl rfl ?_
    refine RL.off rfl rfl ?_
    refine RL.ev (.pick_f rfl rfl) rfl rfl ?_
    refine RL.ev (.assign rfl) rfl rfl ?_
    refine RL.nil (RC.back ?_)
    refine RC.done (rs := [.tmp 2]) (vs := [_]) rfl rfl ⟨rfl, trivial⟩ ?_
    -- end 5
    refine ⟨congrArg Value.bool ?_, S⟩
    first | exact (pB_no (fun e => absurd e.1 g10)).symm | exact (pB_no (fun e => absurd e.2.1 g16)).symm | exact (pB_no (fun e => absurd e.2.2.1 g23)).symm | exact (pB_no (fun e => absurd e.2.2.2.1 g29)).symm | exact pB_congr ⟨fun h => ⟨g10, g16, g23, g29, h⟩, fun h => h.2.2.2.2⟩
theorem c_refKeys (l : List It) (a : Option Addr) (c m : Nat) (hm : m = l.length) (w : World) (hl : Sl w a 2 (l.map It.cells)) (hb : l.length ≤ 1000000) :
    FC Try.prog 29 [.slice a m c] w (Val (.bool (pB ((∀ x ∈ l, inK x) ∧ l.length ≤ 200))) w) := by
  subst hm
  refine FC.intro Try.func29 rfl Try.ntmps29 rfl ?_
  have S := Sub.refl w
  refine RC.seq ?_
  refine RC.region rfl ?_
  refine RL.ev (.assign rfl) rfl rfl ?_
  refine RL.nil (RC.back ?_)
  refine RC.seq ?_
  refine RC.seq ?_
  refine RC.region rfl ?_
  refine RL.ev (.move rfl) rfl rfl ?_
  refine RL.ev (.len sl22 rfl) rfl rfl ?_
  refine RL.ev (.move rfl) rfl rfl ?_
  refine RL.nil (RC.back ?_)
  refine RC.block ?_
  refine RC.loop (α := Nat) (fun i => [(0, .slice a l.length c), (5, .slice a l.length c), (6, .int .i64 (l.length : Int)), (7, .int .i64 (i : Int))]) (fun i w1 => (i ≤ l.length ∧ ∀ x ∈ l.take i, inK x) ∧ Sub w w1) (fun i => l.length - i) 0 (keep_of (by repeat (first | exact trivial | refine And.intro rfl ?_))) (⟨⟨Nat.zero_le _, by simp⟩, S⟩) (fun i w1 hJ => ?_)
  obtain ⟨⟨hi, hp1⟩, S⟩ := hJ
  refine RC.seq ?_
  refine RC.region rfl ?_
  refine RL.ev (.bin rfl rfl rfl) rfl rfl ?_
  refine RL.nil (RC.back ?_)
  refine RC.seq ?_
  refine RC.cond_dec rfl (fun h2 => ?_) (fun h2 => ?_)
  ·
    obtain ⟨x, hx⟩ := getSome (l := l) (i := i) (by omega)
    have hxm := List.mem_of_getElem? hx
    refine RC.skip (RC.back ?_)
    refine RC.seq ?_
    refine RC.block ?_
    refine RC.seq ?_
    refine RC.region rfl ?_
    refine RL.ev (.indexS sl22 rfl rfl (by omega) (hl.is (i := 0) (by simp only [List.length_map, List.length_cons, List.length_nil]; omega))) rfl rfl ?_
    refine RL.ev (.loadR ([.int .i64 x.k, .int .i64 x.v]) sh45 rfl ((hl.sub S).rowAt (enc := It.cells) (i := i) hx) rfl) rfl rfl ?_
    refine RL.alloc ze45 rfl rfl (fun b_4 w_4 e_4 z_4 hb_4 s_4 => ?_)
    have ge_4 := S.le e_4
    have S := S.trans s_4
    refine RL.store sh45 rfl rfl rfl hb_4 (by exact Nat.le_of_ble_eq_true rfl) (by rfl) rfl (fun w3 z3 hb_4 a3 => ?_)
    have S := S.upd a3 ge_4
    have hb_4 : Has w3 b_4 ([.int .i64 x.k, .int .i64 x.v]) _ := hb_4.now (by kernel_rfl)
    refine RL.nil (RC.back ?_)
    refine RC.seq ?_
    refine RC.region rfl ?_
    refine RL.ev (.field0 fo45_0 rfl) rfl rfl ?_
    refine RL.ev (.load1 sh2 rfl (hb_4.cell rfl)) rfl rfl ?_
    refine RL.ev (.bin rfl rfl rfl) rfl rfl ?_
    refine RL.ev (.move rfl) rfl rfl ?_
    refine RL.split 14 rfl (fun h4 => ?_) (fun h4 => ?_)
    ·
      have hno : ¬ ((∀ x ∈ l, inK x) ∧ l.length ≤ 200) := (fun h => by have := (h.1 x hxm).1; omega)
      refine RL.off rfl rfl ?_
      refine RL.off rfl rfl ?_
      refine RL.off rfl rfl ?_
      refine RL.ev (.pick_t rfl rfl) rfl rfl ?_
      refine RL.nil (RC.back ?_)
      refine RC.cond_t rfl ?_
      refine RC.seq ?_
      refine RC.region rfl ?_
      refine RL.ev (.assign rfl) rfl rfl ?_
      refine RL.nil (RC.back ?_)
      refine RC.done (rs := [.tmp 2]) (vs := [_]) rfl rfl ⟨rfl, trivial⟩ ?_
      -- end 1
      rw [pB_no hno]
      exact ⟨rfl, S⟩
    ·
      have h17 : -1073741824 ≤ x.k := (by omega)
      refine RL.ev (.field0 fo45_0 rfl) rfl rfl ?_
      refine RL.ev (.load1 sh2 rfl (hb_4.cell rfl)) rfl rfl ?_
      refine RL.ev (.bin rfl rfl rfl) rfl rfl ?_
      refine RL.ev (.pick_f rfl rfl) rfl rfl ?_
      refine RL.nil (RC.back ?_)
      refine RC.cond_dec rfl (fun h5 => ?_) (fun h5 => ?_)
      ·
        have hno : ¬ ((∀ x ∈ l, inK x) ∧ l.length ≤ 200) := (fun h => by have := (h.1 x hxm).2; omega)
        refine RC.seq ?_
        refine RC.region rfl ?_
        refine RL.ev (.assign rfl) rfl rfl ?_
        refine RL.nil (RC.back ?_)
        refine RC.done (rs := [.tmp 2]) (vs := [_]) rfl rfl ⟨rfl, trivial⟩ ?_
        -- end 2
        rw [pB_no hno]
        exact ⟨rfl, S⟩
      ·
        have h22 : x.k ≤ 1073741824 := (by omega)
        refine RC.skip (RC.back ?_)
        refine RC.region rfl ?_
        refine RL.ev (.as (.bin rfl rfl rfl) (wi64 (y := ((i + 1 : Nat) : Int)) (by omega) (by omega))) rfl rfl ?_
        refine RL.ev (.move rfl) rfl rfl ?_
        exact RL.nil (fun a ka => ⟨i + 1, ⟨⟨by omega, fun z hz => by rw [List.take_add_one, hx] at hz; rcases List.mem_append.1 hz with hz | hz; exact hp1 z hz; have e : z = x := (by simpa using hz); rw [e]; exact ⟨h17, h22⟩⟩, S⟩, by omega, ka.keep (keep_of (by repeat (first | exact trivial | refine And.intro rfl ?_)))⟩)
  ·
    obtain rfl : i = l.length := (by omega)
    rw [List.take_length] at hp1
    refine RC.exit rfl (RC.back ?_)
    refine RC.seq ?_
    refine RC.region rfl ?_
    refine RL.ev (.move rfl) rfl rfl ?_
    refine RL.ev (.len sl22 rfl) rfl rfl ?_
    refine RL.ev (.bin rfl rfl rfl) rfl rfl ?_
    refine RL.ev (.assign rfl) rfl rfl ?_
    refine RL.nil (RC.back ?_)
    refine RC.done (rs := [.tmp 2]) (vs := [_]) rfl rfl ⟨rfl, trivial⟩ ?_
    -- end 3
    exact ⟨congrArg Value.bool (by rw [Bool.eq_iff_iff, decide_eq_true_iff, pB_iff]; exact ⟨fun h => ⟨hp1, by omega⟩, fun h => by have := h.2; omega⟩), S⟩
theorem c_refCrowd (l : List It) (a : Option Addr) (c m : Nat) (hm : m = l.length) (key : Int) (w : World) (hl : Sl w a 2 (l.map It.cells)) (hb : l.length ≤ 1000000) :
    FC Try.prog 28 [.slice a m c, .int .i64 key] w (Val (.int .i64 (crowdL l key : Int)) w) := by
  subst hm
  refine FC.intro Try.func28 rfl Try.ntmps28 rfl ?_
  have S := Sub.refl w
  refine RC.seq ?_
  refine RC.region rfl ?_
  refine RL.ev (.assign rfl) rfl rfl ?_
  refine RL.nil (RC.back ?_)
  refine RC.seq ?_
  refine RC.region rfl ?_
  refine RL.ev (.assign rfl) rfl rfl ?_
  refine RL.nil (RC.back ?_)
  refine RC.seq ?_
  refine RC.seq ?_
  refine RC.region rfl ?_
  refine RL.ev (.move rfl) rfl rfl ?_
  refine RL.ev (.len sl22 rfl) rfl rfl ?_
  refine RL.ev (.move rfl) rfl rfl ?_
  refine RL.nil (RC.back ?_)
  refine RC.block ?_
  refine RC.loop (α := Nat × Nat) (fun x => [(1, .int .i64 key), (5, .int .i64 (x.2 : Int)), (8, .slice a l.length c), (9, .int .i64 (l.length : Int)), (10, .int .i64 (x.1 : Int))]) (fun x w1 => (x.1 ≤ l.length ∧ x.2 = crowdL (l.take x.1) key) ∧ Sub w w1) (fun x => l.length - x.1) (0, 0) (keep_of (by repeat (first | exact trivial | refine And.intro rfl ?_))) (⟨⟨Nat.zero_le _, rfl⟩, S⟩) (fun x w1 hJ => ?_)
  obtain ⟨i, n⟩ := x; obtain ⟨⟨hi, hn⟩, S⟩ := hJ; simp only [] at hi hn
  refine RC.seq ?_
  refine RC.region rfl ?_
  refine RL.ev (.bin rfl rfl rfl) rfl rfl ?_
  refine RL.nil (RC.back ?_)
  refine RC.seq ?_
  refine RC.cond_dec rfl (fun h2 => ?_) (fun h2 => ?_)
  ·
    obtain ⟨x, hx⟩ := getSome (l := l) (i := i) (by omega)
    have hst := crowdL_step hx key
    have hcl := crowdL_le (l.take i) key
    rw [List.length_take] at hcl
    refine RC.skip (RC.back ?_)
    refine RC.seq ?_
    refine RC.block ?_
    refine RC.seq ?_
    refine RC.region rfl ?_
    refine RL.ev (.indexS sl22 rfl rfl (by omega) (hl.is (i := 0) (by simp only [List.length_map, List.length_cons, List.length_nil]; omega))) rfl rfl ?_
    refine RL.ev (.loadR ([.int .i64 x.k, .int .i64 x.v]) sh45 rfl ((hl.sub S).rowAt (enc := It.cells) (i := i) hx) rfl) rfl rfl ?_
    refine RL.alloc ze45 rfl rfl (fun b_7 w_7 e_7 z_7 hb_7 s_7 => ?_)
    have ge_7 := S.le e_7
    have S := S.trans s_7
    refine RL.store sh45 rfl rfl rfl hb_7 (by exact Nat.le_of_ble_eq_true rfl) (by rfl) rfl (fun w3 z3 hb_7 a3 => ?_)
    have S := S.upd a3 ge_7
    have hb_7 : Has w3 b_7 ([.int .i64 x.k, .int .i64 x.v]) _ := hb_7.now (by kernel_rfl)
    refine RL.nil (RC.back ?_)
    refine RC.seq ?_
    refine RC.region rfl ?_
    refine RL.ev (.field0 fo45_0 rfl) rfl rfl ?_
    refine RL.ev (.load1 sh2 rfl (hb_7.cell rfl)) rfl rfl ?_
    refine RL.call rfl ok51 (c_refRank x.k w3) rfl rfl ?_
    rintro _ w4 ⟨rfl, s5⟩
    have S := S.trans s5
    have hb_7 := hb_7.sub s5
    refine RL.ev (.as (v' := .int .u64 (hashOf x.k : Int)) (.rem rfl rfl (by decide)) (by rfl)) rfl rfl ?_
    refine RL.ev (.move rfl) rfl rfl ?_
    refine RL.call rfl ok51 (c_refRank key w4) rfl rfl ?_
    rintro _ w6 ⟨rfl, s7⟩
    have S := S.trans s7
    have hb_7 := hb_7.sub s7
    refine RL.ev (.as (v' := .int .u64 (hashOf key : Int)) (.rem rfl rfl (by decide)) (by rfl)) rfl rfl ?_
    refine RL.ev (.bin rfl rfl rfl) rfl rfl ?_
    refine RL.nil (RC.back ?_)
    refine RC.cond_dec rfl (fun h8 => ?_) (fun h8 => ?_)
    ·
      have h19 : hashOf x.k = hashOf key := (by have := h8; omega)
      rw [if_pos h19] at hst
      refine RC.region rfl ?_
      refine RL.ev (.move rfl) rfl rfl ?_
      refine RL.ev (.as (.bin rfl rfl rfl) (wi64 (y := ((n + 1 : Nat) : Int)) (by omega) (by omega))) rfl rfl ?_
      refine RL.ev (.assign rfl) rfl rfl ?_
      refine RL.nil (RC.back ?_)
      refine RC.region rfl ?_
      refine RL.ev (.as (.bin rfl rfl rfl) (wi64 (y := ((i + 1 : Nat) : Int)) (by omega) (by omega))) rfl rfl ?_
      refine RL.ev (.move rfl) rfl rfl ?_
      exact RL.nil (fun a ka => ⟨(i + 1, n + 1), ⟨⟨by omega, by show n + 1 = crowdL (l.take (i + 1)) key; omega⟩, S⟩, by omega, ka.keep (keep_of (by repeat (first | exact trivial | refine And.intro rfl ?_)))⟩)
    ·
      have h19 : ¬ hashOf x.k = hashOf key := (by have := h8; omega)
      rw [if_neg h19] at hst
      refine RC.skip (RC.back ?_)
      refine RC.region rfl ?_
      refine RL.ev (.as (.bin rfl rfl rfl) (wi64 (y := ((i + 1 : Nat) : Int)) (by omega) (by omega))) rfl rfl ?_
      refine RL.ev (.move rfl) rfl rfl ?_
      exact RL.nil (fun a ka => ⟨(i + 1, n), ⟨⟨by omega, by show n = crowdL (l.take (i + 1)) key; omega⟩, S⟩, by omega, ka.keep (keep_of (by repeat (first | exact trivial | refine And.intro rfl ?_)))⟩)
  ·
    obtain rfl : i = l.length := (by omega)
    rw [List.take_length] at hn
    refine RC.exit rfl (RC.back ?_)
    refine RC.seq ?_
    refine RC.region rfl ?_
    refine RL.ev (.move rfl) rfl rfl ?_
    refine RL.ev (.assign rfl) rfl rfl ?_
    refine RL.nil (RC.back ?_)
    refine RC.done (rs := [.tmp 4]) (vs := [_]) rfl rfl ⟨rfl, trivial⟩ ?_
    -- end 1
    rw [← hn]
    exact ⟨rfl, S⟩
theorem chain_srt (l : List It) : (∀ i x y, l[i]? = some x → l[i + 1]? = some y → upB x y = true) ↔ Srt l := by
  rw [srt_iff]
  constructor
  · intro h i hi
    obtain ⟨x, hx⟩ := getSome (l := l) (i := i) (by omega)
    obtain ⟨y, hy⟩ := getSome (l := l) (i := i + 1) hi
    rw [kAt_get hx, kAt_get hy]
    exact of_decide_eq_true (h i x y hx hy)
  · intro h i x y hx hy
    have := h i (lt_of_get hy)
    rw [kAt_get hx, kAt_get hy] at this
    exact decide_eq_true this
theorem rightM_iff (m : Mo) : rightM m ↔ (∀ i x y, m.heap[i]? = some x → m.heap[i + 1]? = some y → ¬ lessP y x) ∧ (∀ x ∈ m.tab, crowdL m.tab x.k ≤ 9) ∧ ((∀ x ∈ m.map, inK x) ∧ m.map.length ≤ 200) ∧ ((∀ x ∈ m.tab, inK x) ∧ m.tab.length ≤ 200) ∧ ((∀ x ∈ m.heap, inK x) ∧ m.heap.length ≤ 200) ∧ m.row.length ≤ 200 ∧ Srt m.map ∧ Srt m.tab := by
  unfold rightM keysP
  rw [chain_srt, chain_srt]
  constructor
  · rintro ⟨⟨a1, a2, a3⟩, ⟨b1, b2, b3⟩, c, d, e1, e2, e3⟩
    exact ⟨fun i x y hx hy => of_decide_eq_true (e2 i x y hx hy), c, ⟨a1, a3⟩, ⟨b1, b3⟩, ⟨e1, e3⟩, d, a2, b2⟩
  · rintro ⟨e2, c, ⟨a1, a3⟩, ⟨b1, b3⟩, ⟨e1, e3⟩, d, a2, b2⟩
    exact ⟨⟨a1, a2, a3⟩, ⟨b1, b2, b3⟩, c, d, e1, fun i x y hx hy => decide_eq_true (e2 i x y hx hy), e3⟩
theorem c_refMRight (p : Ph) (m : Mo) (hs : MoS p m) (w : World) (hr : MoR w p m) : FC Try.prog 14 [moV p m] w (Val (.bool (pB (rightM m))) w) := by
  have l1 := hs.l1
  have l2 := hs.l2
  have l3 := hs.l3
  have l4 := hs.l4
  have hr4 := hr.h4
  have hr2 := hr.h2
  rw [pB_congr (rightM_iff m)]
  refine FC.intro Try.func14 rfl Try.ntmps14 rfl ?_
  have S := Sub.refl w
  refine RC.seq ?_
  refine RC.region rfl ?_
  refine RL.box rfl rfl rfl (fun b_1 w_1 e_1 z_1 hb_1 s_1 => ?_)
  have ge_1 := S.le e_1
  have S := S.trans s_1
  have hb_1 : Has w_1 b_1 ([.slice p.a1 m.map.length p.c1, .slice p.a2 m.tab.length p.c2, .slice p.a3 m.row.length p.c3, .slice p.a4 m.heap.length p.c4]) _ := hb_1
  refine RL.ev (.assign rfl) rfl rfl ?_
  refine RL.nil (RC.back ?_)
  refine RC.seq ?_
  refine RC.seq ?_
  refine RC.region rfl ?_
  refine RL.ev (.assign rfl) rfl rfl ?_
  refine RL.nil (RC.back ?_)
  refine RC.block ?_
  refine RC.loop (α := Nat) (fun i => [(1, .pointer (some ⟨b_1, 0, none⟩)), (3, .int .i64 ((i + 1 : Nat) : Int))]) (fun i w1 => (i ≤ m.heap.length ∧ ∀ j x y, j < i → m.heap[j]? = some x → m.heap[j + 1]? = some y → ¬ lessP y x) ∧ Has w1 b_1 (moC p m) 25 ∧ Sub w w1) (fun i => m.heap.length - i) 0 (keep_of (by repeat (first | exact trivial | refine And.intro rfl ?_))) (⟨⟨Nat.zero_le _, fun j x y h => absurd h (Nat.not_lt_zero _)⟩, hb_1, S⟩) (fun i w1 hJ => ?_)
  obtain ⟨⟨hi, hp⟩, hb_1, S⟩ := hJ
  refine RC.seq ?_
  refine RC.seq ?_
  refine RC.region rfl ?_
  refine RL.ev (.move rfl) rfl rfl ?_
  refine RL.ev (.field0 fo25_3 rfl) rfl rfl ?_
  refine RL.ev (.load1 sh22 rfl (hb_1.cell rfl)) rfl rfl ?_
  refine RL.ev (.len sl22 rfl) rfl rfl ?_
  refine RL.ev (.bin rfl rfl rfl) rfl rfl ?_
  refine RL.nil (RC.back ?_)
  refine RC.cond_dec rfl (fun h2 => ?_) (fun h2 => ?_)
  ·
    obtain ⟨x, hx⟩ := getSome (l := m.heap) (i := i) (by omega)
    obtain ⟨y, hy⟩ := getSome (l := m.heap) (i := i + 1) (by omega)
    refine RC.skip (RC.back ?_)
    refine RC.seq ?_
    refine RC.block ?_
    refine RC.seq ?_
    refine RC.draw rfl mxo (by kernel_rfl) ?_
    refine RQ.ev (.field0 fo25_3 rfl) rfl rfl ?_
    refine RQ.ev (.load1 sh22 rfl (hb_1.cell rfl)) rfl rfl ?_
    refine RQ.ev (.move rfl) rfl rfl ?_
    refine RQ.ev (.indexS sl22 rfl rfl (by omega) (hr4.is (i := 0) (by simp only [List.length_map, List.length_cons, List.length_nil]; omega))) rfl rfl ?_
    refine RQ.ev (.loadR ([.int .i64 y.k, .int .i64 y.v]) sh45 rfl ((hr4.sub S).rowAt (enc := It.cells) (i := i + 1) hy) rfl) rfl rfl ?_
    refine RQ.ev (.field0 fo25_3 rfl) rfl rfl ?_
    refine RQ.ev (.load1 sh22 rfl (hb_1.cell rfl)) rfl rfl ?_
    refine RQ.ev (.move rfl) rfl rfl ?_
    refine RQ.ev (.as (.bin rfl rfl rfl) (wi64 (y := (i : Int)) (by omega) (by omega))) rfl rfl ?_
    refine RQ.ev (.indexS sl22 rfl rfl (by omega) (hr4.is (i := 0) (by simp only [List.length_map, List.length_cons, List.length_nil]; omega))) rfl rfl ?_
    refine RQ.ev (.loadR ([.int .i64 x.k, .int .i64 x.v]) sh45 rfl ((hr4.sub S).rowAt (enc := It.cells) (i := i) hx) rfl) rfl rfl ?_
    refine RQ.call rfl ok27 (fun w' s' => c_refLess y x w') rfl rfl ?_
    refine RQ.nil (fun w3 s4 => RC.back ?_)
    have S := S.trans s4
    have hb_1 := hb_1.sub s4
    refine RC.cond rfl (fun h5 => ?_) (fun h5 => ?_)
    ·
      have g24 : lessP y x := of_decide_eq_true h5
      refine RC.seq ?_
      refine RC.region rfl ?_
      refine RL.ev (.assign rfl) rfl rfl ?_
      refine RL.nil (RC.back ?_)
      refine RC.done (rs := [.tmp 2]) (vs := [_]) rfl rfl ⟨rfl, trivial⟩ ?_
      -- end 1
      rw [pB_no (fun e => e.1 i x y hx hy g24)]
      exact ⟨rfl, S⟩
    ·
      have g24 : ¬ lessP y x := of_decide_eq_false h5
      refine RC.skip (RC.back ?_)
      refine RC.region rfl ?_
      refine RL.ev (.move rfl) rfl rfl ?_
      refine RL.ev (.as (.bin rfl rfl rfl) (wi64 (y := ((i + 1 + 1 : Nat) : Int)) (by omega) (by omega))) rfl rfl ?_
      refine RL.ev (.assign rfl) rfl rfl ?_
      exact RL.nil (fun a ka => ⟨i + 1, ⟨⟨by omega, fun j z u hj hz hu => by rcases Nat.lt_or_ge j i with q | q; exact hp j z u q hz hu; obtain rfl : j = i := (by omega); rw [hx] at hz; rw [hy] at hu; cases hz; cases hu; exact g24⟩, hb_1, S⟩, by omega, ka.keep (keep_of (by repeat (first | exact trivial | refine And.intro rfl ?_)))⟩)
  ·
    have hp : ∀ i x y, m.heap[i]? = some x → m.heap[i + 1]? = some y → ¬ lessP y x := (fun j x y hx hy => hp j x y (by have := lt_of_get hy; omega) hx hy)
    refine RC.exit rfl (RC.back ?_)
    refine RC.seq ?_
    refine RC.seq ?_
    refine RC.region rfl ?_
    refine RL.ev (.field0 fo25_1 rfl) rfl rfl ?_
    refine RL.ev (.load1 sh22 rfl (hb_1.cell rfl)) rfl rfl ?_
    refine RL.ev (.len sl22 rfl) rfl rfl ?_
    refine RL.ev (.move rfl) rfl rfl ?_
    refine RL.nil (RC.back ?_)
    refine RC.block ?_
    refine RC.loop (α := Nat) (fun i => [(1, .pointer (some ⟨b_1, 0, none⟩)), (26, .slice p.a2 m.tab.length p.c2), (27, .int .i64 (m.tab.length : Int)), (28, .int .i64 (i : Int))]) (fun i w6 => (i ≤ m.tab.length ∧ ∀ x ∈ m.tab.take i, crowdL m.tab x.k ≤ 9) ∧ Has w6 b_1 (moC p m) 25 ∧ Sub w w6) (fun i => m.tab.length - i) 0 (keep_of (by repeat (first | exact trivial | refine And.intro rfl ?_))) (⟨⟨Nat.zero_le _, by simp⟩, hb_1, S⟩) (fun i w6 hJ => ?_)
    obtain ⟨⟨hi2, hp2⟩, hb_1, S⟩ := hJ
    refine RC.seq ?_
    refine RC.region rfl ?_
    refine RL.ev (.bin rfl rfl rfl) rfl rfl ?_
    refine RL.nil (RC.back ?_)
    refine RC.seq ?_
    refine RC.cond_dec rfl (fun h7 => ?_) (fun h7 => ?_)
    ·
      obtain ⟨x, hx⟩ := getSome (l := m.tab) (i := i) (by omega)
      have hxm := List.mem_of_getElem? hx
      refine RC.skip (RC.back ?_)
      refine RC.seq ?_
      refine RC.block ?_
      refine RC.seq ?_
      refine RC.region rfl ?_
      refine RL.ev (.indexS sl22 rfl rfl (by omega) (hr2.is (i := 0) (by simp only [List.length_map, List.length_cons, List.length_nil]; omega))) rfl rfl ?_
      refine RL.ev (.loadR ([.int .i64 x.k, .int .i64 x.v]) sh45 rfl ((hr2.sub S).rowAt (enc := It.cells) (i := i) hx) rfl) rfl rfl ?_
      refine RL.alloc ze45 rfl rfl (fun b_5 w_5 e_5 z_5 hb_5 s_5 => ?_)
      have ge_5 := S.le e_5
      have n_1__5 := hb_1.ne e_5
      have S := S.trans s_5
      have hb_1 := hb_1.sub s_5
      refine RL.store sh45 rfl rfl rfl hb_5 (by exact Nat.le_of_ble_eq_true rfl) (by rfl) rfl (fun w8 z8 hb_5 a8 => ?_)
      have S := S.upd a8 ge_5
      have hb_1 := hb_1.upd a8 n_1__5
      have hb_5 : Has w8 b_5 ([.int .i64 x.k, .int .i64 x.v]) _ := hb_5.now (by kernel_rfl)
      refine RL.nil (RC.back ?_)
      refine RC.seq ?_
      refine RC.region rfl ?_
      refine RL.ev (.field0 fo25_1 rfl) rfl rfl ?_
      refine RL.ev (.load1 sh22 rfl (hb_1.cell rfl)) rfl rfl ?_
      refine RL.ev (.field0 fo45_0 rfl) rfl rfl ?_
      refine RL.ev (.load1 sh2 rfl (hb_5.cell rfl)) rfl rfl ?_
      refine RL.call rfl ok28 (c_refCrowd m.tab p.a2 p.c2 _ rfl x.k w8 (hr2.sub S) (by omega)) rfl rfl ?_
      rintro _ w9 ⟨rfl, s10⟩
      have S := S.trans s10
      have hb_1 := hb_1.sub s10
      have hb_5 := hb_5.sub s10
      refine RL.ev (.bin rfl rfl rfl) rfl rfl ?_
      refine RL.nil (RC.back ?_)
      refine RC.cond_dec rfl (fun h11 => ?_) (fun h11 => ?_)
      ·
        have g37 : ¬ crowdL m.tab x.k ≤ 9 := (by omega)
        refine RC.seq ?_
        refine RC.region rfl ?_
        refine RL.ev (.assign rfl) rfl rfl ?_
        refine RL.nil (RC.back ?_)
        refine RC.done (rs := [.tmp 2]) (vs := [_]) rfl rfl ⟨rfl, trivial⟩ ?_
        -- end 2
        rw [pB_no (fun e => g37 (e.2.1 x hxm))]
        exact ⟨rfl, S⟩
      ·
        have g37 : crowdL m.tab x.k ≤ 9 := (by omega)
        refine RC.skip (RC.back ?_)
        refine RC.region rfl ?_
        refine RL.ev (.as (.bin rfl rfl rfl) (wi64 (y := ((i + 1 : Nat) : Int)) (by omega) (by omega))) rfl rfl ?_
        refine RL.ev (.move rfl) rfl rfl ?_
        exact RL.nil (fun a ka => ⟨i + 1, ⟨⟨by omega, fun z hz => by rw [List.take_add_one, hx] at hz; rcases List.mem_append.1 hz with hz | hz; exact hp2 z hz; have e : z = x := (by simpa using hz); rw [e]; exact g37⟩, hb_1, S⟩, by omega, ka.keep (keep_of (by repeat (first | exact trivial | refine And.intro rfl ?_)))⟩)
    ·
      obtain rfl : i = m.tab.length := (by omega)
      rw [List.take_length] at hp2
      refine RC.exit rfl (RC.back ?_)
      refine RC.seq ?_
      refine RC.region rfl ?_
      refine RL.ev (.field0 fo25_0 rfl) rfl rfl ?_
      refine RL.ev (.load1 sh22 rfl (hb_1.cell rfl)) rfl rfl ?_
      refine RL.call rfl ok29 (c_refKeys m.map p.a1 p.c1 _ rfl w6 (hr.h1.sub S) (by omega)) rfl rfl ?_
      rintro _ w12 ⟨rfl, s13⟩
      have S := S.trans s13
      have hb_1 := hb_1.sub s13
      refine RL.ev (.move rfl) rfl rfl ?_
      refine RL.splitB 42 rfl (fun h14 => ?_) (fun h14 => ?_)
      ·
        have g42 := pB_iff.1 h14
        refine RL.ev (.field0 fo25_1 rfl) rfl rfl ?_
        refine RL.ev (.load1 sh22 rfl (hb_1.cell rfl)) rfl rfl ?_
        refine RL.call rfl ok29 (c_refKeys m.tab p.a2 p.c2 _ rfl w12 (hr.h2.sub S) (by omega)) rfl rfl ?_
        rintro _ w15 ⟨rfl, s16⟩
        have S := S.trans s16
        have hb_1 := hb_1.sub s16
        refine RL.ev (.pick_t rfl rfl) rfl rfl ?_
        refine RL.ev (.move rfl) rfl rfl ?_
        refine RL.splitB 47 rfl (fun h17 => ?_) (fun h17 => ?_)
        ·
          have g47 := pB_iff.1 h17
          refine RL.ev (.field0 fo25_3 rfl) rfl rfl ?_
          refine RL.ev (.load1 sh22 rfl (hb_1.cell rfl)) rfl rfl ?_
          refine RL.call rfl ok29 (c_refKeys m.heap p.a4 p.c4 _ rfl w15 (hr.h4.sub S) (by omega)) rfl rfl ?_
          rintro _ w18 ⟨rfl, s19⟩
          have S := S.trans s19
          have hb_1 := hb_1.sub s19
          refine RL.ev (.pick_t rfl rfl) rfl rfl ?_
          refine RL.ev (.move rfl) rfl rfl ?_
          refine RL.splitB 52 rfl (fun h20 => ?_) (fun h20 => ?_)
          ·
            have g52 := pB_iff.1 h20
            refine RL.ev (.field0 fo25_2 rfl) rfl rfl ?_
            refine RL.ev (.load1 sh23 rfl (hb_1.cell rfl)) rfl rfl ?_
            refine RL.ev (.len sl23 rfl) rfl rfl ?_
            refine RL.ev (.bin rfl rfl rfl) rfl rfl ?_
            refine RL.ev (.pick_t rfl rfl) rfl rfl ?_
            refine RL.ev (.move rfl) rfl rfl ?_
            refine RL.split 58 rfl (fun h21 => ?_) (fun h21 => ?_)
            ·
              have g58 : m.row.length ≤ 200 := (by omega)
              refine RL.ev (.field0 fo25_0 rfl) rfl rfl ?_
              refine RL.ev (.load1 sh22 rfl (hb_1.cell rfl)) rfl rfl ?_
              refine RL.call rfl ok30 (c_ordered m.map p.a1 p.c1 _ rfl w18 (hr.h1.sub S) (by omega)) rfl rfl ?_
              rintro _ w22 ⟨rfl, s23⟩
              have S := S.trans s23
              have hb_1 := hb_1.sub s23
              refine RL.ev (.pick_t rfl rfl) rfl rfl ?_
              refine RL.ev (.move rfl) rfl rfl ?_
              refine RL.splitB 63 rfl (fun h24 => ?_) (fun h24 => ?_)
              ·
                have g63 := (srtB_iff m.map).1 h24
                refine RL.ev (.field0 fo25_1 rfl) rfl rfl ?_
                refine RL.ev (.load1 sh22 rfl (hb_1.cell rfl)) rfl rfl ?_
                refine RL.call rfl ok30 (c_ordered m.tab p.a2 p.c2 _ rfl w22 (hr.h2.sub S) (by omega)) rfl rfl ?_
                rintro _ w25 ⟨rfl, s26⟩
                have S := S.trans s26
                have hb_1 := hb_1.sub s26
                refine RL.ev (.pick_t rfl rfl) rfl rfl ?_
                refine RL.ev (.assign rfl) rfl rfl ?_
                refine RL.nil (RC.back ?_)
                refine RC.done (rs := [.tmp 2]) (vs := [_]) rfl rfl ⟨rfl, trivial⟩ ?_
                -- end 3
                refine ⟨congrArg Value.bool ?_, S⟩
                first | exact (pB_no (fun e => absurd e.2.2.1 g42)).symm | exact (pB_no (fun e => absurd e.2.2.2.1 g47)).symm | exact (pB_no (fun e => absurd e.2.2.2.2.1 g52)).symm | exact (pB_no (fun e => absurd e.2.2.2.2.2.1 g58)).symm | exact (pB_no (fun e => absurd e.2.2.2.2.2.2.1 g63)).symm | (rw [Bool.eq_iff_iff, srtB_iff, pB_iff]; exact ⟨fun h => ⟨hp, hp2, g42, g47, g52, g58, g63, h⟩, fun h => h.2.2.2.2.2.2.2⟩)
              ·
                have g63 : ¬ Srt m.map := (fun e => by rw [(srtB_iff m.map).2 e] at h24; cases h24)
                refine RL.off rfl rfl ?_
                refine RL.off rfl rfl ?_
                refine RL.off rfl rfl ?_
                refine RL.ev (.pick_f rfl rfl) rfl rfl ?_
                refine RL.ev (.assign rfl) rfl rfl ?_
                refine RL.nil (RC.back ?_)
                refine RC.done (rs := [.tmp 2]) (vs := [_]) rfl rfl ⟨rfl, trivial⟩ ?_
                -- end 4
                refine ⟨congrArg Value.bool ?_, S⟩
                first | exact (pB_no (fun e => absurd e.2.2.1 g42)).symm | exact (pB_no (fun e => absurd e.2.2.2.1 g47)).symm | exact (pB_no (fun e => absurd e.2.2.2.2.1 g52)).symm | exact (pB_no (fun e => absurd e.2.2.2.2.2.1 g58)).symm | exact (pB_no (fun e => absurd e.2.2.2.2.2.2.1 g63)).symm | (rw [Bool.eq_iff_iff, srtB_iff, pB_iff]; exact ⟨fun h => ⟨hp, hp2, g42, g47, g52, g58, g63, h⟩, fun h => h.2.2.2.2.2.2.2⟩)
            ·
              have g58 : ¬ m.row.length ≤ 200 := (by omega)
              refine RL.off rfl rfl ?_
              refine RL.off rfl rfl ?_
              refine RL.off rfl rfl ?_
              refine RL.ev (.pick_f rfl rfl) rfl rfl ?_
              refine RL.ev (.move rfl) rfl rfl ?_
              refine RL.off rfl rfl ?_
              refine RL.off rfl rfl ?_
              refine RL.off rfl rfl ?_
              refine RL.ev (.pick_f rfl rfl) rfl rfl ?_
              refine RL.ev (.assign rfl) rfl rfl ?_
              refine RL.nil (RC.back ?_)
              refine RC.done (rs := [.tmp 2]) (vs := [_]) rfl rfl ⟨rfl, trivial⟩ ?_
              -- end 5
              refine ⟨congrArg Value.bool ?_, S⟩
              first | exact (pB_no (fun e => absurd e.2.2.1 g42)).symm | exact (pB_no (fun e => absurd e.2.2.2.1 g47)).symm | exact (pB_no (fun e => absurd e.2.2.2.2.1 g52)).symm | exact (pB_no (fun e => absurd e.2.2.2.2.2.1 g58)).symm | exact (pB_no (fun e => absurd e.2.2.2.2.2.2.1 g63)).symm | (rw [Bool.eq_iff_iff, srtB_iff, pB_iff]; exact ⟨fun h => ⟨hp, hp2, g42, g47, g52, g58, g63, h⟩, fun h => h.2.2.2.2.2.2.2⟩)
          ·
            have g52 : ¬ ((∀ x ∈ m.heap, inK x) ∧ m.heap.length ≤ 200) := (fun e => by rw [pB_yes e] at h20; cases h20)
            refine RL.off rfl rfl ?_
            refine RL.off rfl rfl ?_
            refine RL.off rfl rfl ?_
            refine RL.off rfl rfl ?_
            refine RL.ev (.pick_f rfl rfl) rfl rfl ?_
            refine RL.ev (.move rfl) rfl rfl ?_
            refine RL.off rfl rfl ?_
            refine RL.off rfl rfl ?_
            refine RL.off rfl rfl ?_
            refine RL.ev (.pick_f rfl rfl) rfl rfl ?_
            refine RL.ev (.move rfl) rfl rfl ?_
            refine RL.off rfl rfl ?_
            refine RL.off rfl rfl ?_
            refine RL.off rfl rfl ?_
            refine RL.ev (.pick_f rfl rfl) rfl rfl ?_
            refine RL.ev (.assign rfl) rfl rfl ?_
            refine RL.nil (RC.back ?_)
            refine RC.done (rs := [.tmp 2]) (vs := [_]) rfl rfl ⟨rfl, trivial⟩ ?_
            -- end 6
            refine ⟨congrArg Value.bool ?_, S⟩
            first | exact (pB_no (fun e => absurd e.2.2.1 g42)).symm | exact (pB_no (fun e => absurd e.2.2.2.1 g47)).symm | exact (pB_no (fun e => absurd e.2.2.2.2.1 g52)).symm | exact (pB_no (fun e => absurd e.2.2.2.2.2.1 g58)).symm | exact (pB_no (fun e => absurd e.2.2.2.2.2.2.1 g63)).symm | (rw [Bool.eq_iff_iff, srtB_iff, pB_iff]; exact ⟨fun h => ⟨hp, hp2, g42, g47, g52, g58, g63, h⟩, fun h => h.2.2.2.2.2.2.2⟩)
        ·
          have g47 : ¬ ((∀ x ∈ m.tab, inK x) ∧ m.tab.length ≤ 200) := (fun e => by rw [pB_yes e] at h17; cases h17)
          refine RL.off rfl rfl ?_
          refine RL.off rfl rfl ?_
          refine RL.off rfl rfl ?_
          refine RL.ev (.pick_f rfl rfl) rfl rfl ?_
          refine RL.ev (.move rfl) rfl rfl ?_
          refine RL.off rfl rfl ?_
          refine RL.off rfl rfl ?_
          refine RL.off rfl rfl ?_
          refine RL.off rfl rfl ?_
          refine RL.ev (.pick_f rfl rfl) rfl rfl ?_
          refine RL.ev (.move rfl) rfl rfl ?_
          refine RL.off rfl rfl ?_
          refine RL.off rfl rfl ?_
          refine RL.off rfl rfl ?_
          refine RL.ev (.pick_f rfl rfl) rfl rfl ?_
          refine RL.ev (.move rfl) rfl rfl ?_
          refine RL.off rfl rfl ?_
          refine RL.off rfl rfl ?_
          refine RL.off rfl rfl ?_
          refine RL.ev (.pick_f rfl rfl) rfl rfl ?_
          refine RL.ev (.assign rfl) rfl rfl ?_
          refine RL.nil (RC.back ?_)
          refine RC.done (rs := [.tmp 2]) (vs := [_]) rfl rfl ⟨rfl, trivial⟩ ?_
          -- end 7
          refine ⟨congrArg Value.bool ?_, S⟩
          first | exact (pB_no (fun e => absurd e.2.2.1 g42)).symm | exact (pB_no (fun e => absurd e.2.2.2.1 g47)).symm | exact (pB_no (fun e => absurd e.2.2.2.2.1 g52)).symm | exact (pB_no (fun e => absurd e.2.2.2.2.2.1 g58)).symm | exact (pB_no (fun e => absurd e.2.2.2.2.2.2.1 g63)).symm | (rw [Bool.eq_iff_iff, srtB_iff, pB_iff]; exact ⟨fun h => ⟨hp, hp2, g42, g47, g52, g58, g63, h⟩, fun h => h.2.2.2.2.2.2.2⟩)
      ·
        have g42 : ¬ ((∀ x ∈ m.map, inK x) ∧ m.map.length ≤ 200) := (fun e => by rw [pB_yes e] at h14; cases h14)
        refine RL.off rfl rfl ?_
        refine RL.off rfl rfl ?_
        refine RL.off rfl rfl ?_
        refine RL.ev (.pick_f rfl rfl) rfl rfl ?_
        refine RL.ev (.move rfl) rfl rfl ?_
        refine RL.off rfl rfl ?_
        refine RL.off rfl rfl ?_
        refine RL.off rfl rfl ?_
        refine RL.ev (.pick_f rfl rfl) rfl rfl ?_
        refine RL.ev (.move rfl) rfl rfl ?_
        refine RL.off rfl rfl ?_
        refine RL.off rfl rfl ?_
        refine RL.off rfl rfl ?_
        refine RL.off rfl rfl ?_
        refine RL.ev (.pick_f rfl rfl) rfl rfl ?_
        refine RL.ev (.move rfl) rfl rfl ?_
        refine RL.off rfl rfl ?_
        refine RL.off rfl rfl ?_
        refine RL.off rfl rfl ?_
        refine RL.ev (.pick_f rfl rfl) rfl rfl ?_
        refine RL.ev (.move rfl) rfl rfl ?_
        refine RL.off rfl rfl ?_
        refine RL.off rfl rfl ?_
        refine RL.off rfl rfl ?_
        refine RL.ev (.pick_f rfl rfl) rfl rfl ?_
        refine RL.ev (.assign rfl) rfl rfl ?_
        refine RL.nil (RC.back ?_)
        refine RC.done (rs := [.tmp 2]) (vs := [_]) rfl rfl ⟨rfl, trivial⟩ ?_
        -- end 8
        refine ⟨congrArg Value.bool ?_, S⟩
        first | exact (pB_no (fun e => absurd e.2.2.1 g42)).symm | exact (pB_no (fun e => absurd e.2.2.2.1 g47)).symm | exact (pB_no (fun e => absurd e.2.2.2.2.1 g52)).symm | exact (pB_no (fun e => absurd e.2.2.2.2.2.1 g58)).symm | exact (pB_no (fun e => absurd e.2.2.2.2.2.2.1 g63)).symm | (rw [Bool.eq_iff_iff, srtB_iff, pB_iff]; exact ⟨fun h => ⟨hp, hp2, g42, g47, g52, g58, g63, h⟩, fun h => h.2.2.2.2.2.2.2⟩)
end Go.Proofs.Ytjafbffehmombaa
