/-
  treap.Right, and the reference's rows.
-/
import Derived.Test.YtdmaogopibljoaaTreapMay
import Derived.Test.YtdmaogopibljoaaMixRef
set_option linter.unusedVariables false
set_option linter.unusedSimpArgs false
namespace Go.Proofs.Ytdmaogopibljoaa
open Go Go.XL

/-- are all those maps'? -/
noncomputable def allMaps (A : Ar) (l : List Int) : Bool := aokB A && l.all (isMapB A)
theorem may_neg {A : Ar} {r : Int} (hA : AOk A) (h : mayF A 201 r bnd0 200 < 0) : isMapB A r = false := isMapB_no (fun e => by have := (isMap_iff hA).2 e; omega)
theorem may_pos {A : Ar} {r : Int} (hA : AOk A) (h : ¬ mayF A 201 r bnd0 200 < 0) : isMapB A r = true := isMapB_yes ((isMap_iff hA).1 (by omega))
theorem all_take {α : Type} {p : α → Bool} {l : List α} {i : Nat} {x : α} (h : l[i]? = some x) (hp : (l.take i).all p = true) (hx : p x = true) : (l.take (i + 1)).all p = true := by
  rw [List.take_add_one, h, List.all_append, hp]; simp [hx]
theorem all_no {α : Type} {p : α → Bool} {l : List α} {i : Nat} {x : α} (h : l[i]? = some x) (hx : p x = false) : l.all p = false := by
  rw [List.all_eq_false]; exact ⟨x, List.mem_of_getElem? h, by rw [hx]; simp⟩
theorem c_tright (A : Ar) (na fa : Option Addr) (nc fc : Nat) (l : List Int) (m : Nat) (hm : m = l.length) (pa : Option Addr) (pc : Nat) (hl : l.length ≤ 10000) (hli : ∀ x ∈ l, U64 x) (w : World) (hA : ArR w na fa A) (hP : Sl w pa 1 (l.map fun x => [u6 x])) :
    FC Try.prog 28 [arV na fa nc fc A, .slice pa m pc] w (Val (.bool (allMaps A l)) w) := by
  subst hm
  have hN := hA.nodes
  have hFr := hA.free
  refine FC.intro Try.func28 rfl Try.ntmps28 rfl ?_
  have S := Sub.refl w
  refine RC.seq ?_
  refine RC.region rfl ?_
  refine RL.box rfl rfl rfl (fun b_2 w_2 e_2 z_2 hb_2 s_2 => ?_)
  have ge_2 := S.le e_2
  have S := S.trans s_2
  have hb_2 : Has w_2 b_2 ([.slice na A.nodes.length nc, .slice fa A.free.length fc]) _ := hb_2
  refine RL.ev (.assign rfl) rfl rfl ?_
  refine RL.nil (RC.back ?_)
  refine RC.seq ?_
  refine RC.region rfl ?_
  refine RL.ev (.loadR ([.slice na A.nodes.length nc, .slice fa A.free.length fc]) sh28 rfl hb_2.row rfl) rfl rfl ?_
  refine RL.ev (.buildS ze80 pl80 rfl rfl) rfl rfl ?_
  refine RL.box rfl rfl rfl (fun b_10 w_10 e_10 z_10 hb_10 s_10 => ?_)
  have ge_10 := S.le e_10
  have n_2__10 := hb_2.ne e_10
  have S := S.trans s_10
  have hb_2 := hb_2.sub s_10
  have hb_10 : Has w_10 b_10 (frC na fa nc fc A 0) 80 := hb_10
  refine RL.ev (.assign rfl) rfl rfl ?_
  refine RL.nil (RC.back ?_)
  refine RC.seq ?_
  refine RC.seq ?_
  refine RC.region rfl ?_
  refine RL.ev (.loadR ([.slice na A.nodes.length nc, .slice fa A.free.length fc]) sh28 rfl hb_2.row rfl) rfl rfl ?_
  refine RL.call rfl ok39 (c_aRight A na fa nc fc w_10 (hA.sub S)) rfl rfl ?_
  rintro _ w1 ⟨rfl, s2⟩
  have S := S.trans s2
  have hb_2 := hb_2.sub s2
  have hb_10 := hb_10.sub s2
  refine RL.ev (.not rfl) rfl rfl ?_
  refine RL.nil (RC.back ?_)
  refine RC.cond rfl (fun h3 => ?_) (fun h3 => ?_)
  ·
    have hno : aokB A = false := (by simpa using h3)
    refine RC.seq ?_
    refine RC.region rfl ?_
    refine RL.ev (.assign rfl) rfl rfl ?_
    refine RL.nil (RC.back ?_)
    refine RC.done (rs := [.tmp 4]) (vs := [_]) rfl rfl ⟨rfl, trivial⟩ ?_
    -- end 1
    rw [allMaps, hno]
    exact ⟨rfl, S⟩
  ·
    have hokb : aokB A = true := (by simpa using h3)
    have hok : AOk A := (aokB_iff A).1 hokb
    refine RC.skip (RC.back ?_)
    refine RC.seq ?_
    refine RC.seq ?_
    refine RC.region rfl ?_
    refine RL.ev (.move rfl) rfl rfl ?_
    refine RL.ev (.len sl63 rfl) rfl rfl ?_
    refine RL.ev (.move rfl) rfl rfl ?_
    refine RL.nil (RC.back ?_)
    refine RC.block ?_
    refine RC.loop (α := Nat) (fun i => [(5, .pointer (some ⟨b_10, 0, none⟩)), (14, .slice pa l.length pc), (15, .int .i64 (l.length : Int)), (16, .int .i64 (i : Int))]) (fun i w4 => i ≤ l.length ∧ (l.take i).all (isMapB A) = true ∧ Has w4 b_10 (frC na fa nc fc A 0) 80 ∧ Sub w w4) (fun i => l.length - i) 0 (keep_of (by repeat (first | exact trivial | refine And.intro rfl ?_))) (⟨Nat.zero_le _, rfl, hb_10, S⟩) (fun i w4 hJ => ?_)
    obtain ⟨hi, hp, hb_10, S⟩ := hJ
    refine RC.seq ?_
    refine RC.region rfl ?_
    refine RL.ev (.bin rfl rfl rfl) rfl rfl ?_
    refine RL.nil (RC.back ?_)
    refine RC.seq ?_
    refine RC.cond_dec rfl (fun h5 => ?_) (fun h5 => ?_)
    ·
      obtain ⟨y, hy⟩ := getSome (l := l) (i := i) (by omega)
      refine RC.skip (RC.back ?_)
      refine RC.seq ?_
      refine RC.block ?_
      refine RC.seq ?_
      refine RC.region rfl ?_
      refine RL.ev (.indexS sl63 rfl rfl (by omega) (hP.is (i := 0) (by simp only [List.length_map]; omega))) rfl rfl ?_
      refine RL.ev (.load1 sh30 rfl ((hP.sub S).one (enc := u6) (i := i) hy)) rfl rfl ?_
      refine RL.ev (.assign rfl) rfl rfl ?_
      refine RL.nil (RC.back ?_)
      refine RC.seq ?_
      refine RC.region rfl ?_
      refine RL.ev (.move rfl) rfl rfl ?_
      refine RL.ev (.move rfl) rfl rfl ?_
      refine RL.ev (.as (v' := .agg bnd0.cells.toArray) (.buildS ze91 pl91 rfl rfl) (by rfl)) rfl rfl ?_
      refine RL.call rfl ok40 (c_may A na fa nc fc 0 b_10 201 y bnd0 200 w4 (hli y (List.mem_of_getElem? hy)) (by decide) (by decide) (by decide) hb_10 (hA.sub S)) rfl rfl ?_
      rintro _ w6 ⟨rfl, s7⟩
      have S := S.trans s7
      have hb_10 := hb_10.sub s7
      refine RL.ev (.bin rfl rfl rfl) rfl rfl ?_
      refine RL.nil (RC.back ?_)
      refine RC.cond_dec rfl (fun h8 => ?_) (fun h8 => ?_)
      ·
        have hbad := may_neg hok h8
        refine RC.seq ?_
        refine RC.region rfl ?_
        refine RL.ev (.assign rfl) rfl rfl ?_
        refine RL.nil (RC.back ?_)
        refine RC.done (rs := [.tmp 4]) (vs := [_]) rfl rfl ⟨rfl, trivial⟩ ?_
        -- end 2
        rw [allMaps, all_no hy hbad, Bool.and_false]
        exact ⟨rfl, S⟩
      ·
        have hgood := may_pos hok h8
        refine RC.skip (RC.back ?_)
        refine RC.region rfl ?_
        refine RL.ev (.as (.bin rfl rfl rfl) (wi64 (y := ((i + 1 : Nat) : Int)) (by omega) (by omega))) rfl rfl ?_
        refine RL.ev (.move rfl) rfl rfl ?_
        exact RL.nil (fun a ka => ⟨i + 1, ⟨by omega, all_take hy hp hgood, hb_10, S⟩, by omega, ka.keep (keep_of (by repeat (first | exact trivial | refine And.intro rfl ?_)))⟩)
    ·
      obtain rfl : i = l.length := (by omega)
      rw [List.take_length] at hp
      refine RC.exit rfl (RC.back ?_)
      refine RC.seq ?_
      refine RC.region rfl ?_
      refine RL.ev (.assign rfl) rfl rfl ?_
      refine RL.nil (RC.back ?_)
      refine RC.done (rs := [.tmp 4]) (vs := [_]) rfl rfl ⟨rfl, trivial⟩ ?_
      -- end 3
      rw [allMaps, hp, hokb]
      exact ⟨rfl, S⟩
theorem isMapB_ok (A : Ar) (r : Int) : (aokB A && isMapB A r) = isMapB A r := by
  cases h : isMapB A r with
  | false => exact Bool.and_false _
  | true => rw [aokB_yes ((isMapB_iff A r).1 h).1]; rfl
theorem c_tRight (A : Ar) (na fa : Option Addr) (nc fc : Nat) (r : Int) (hr : U64 r) (w : World) (hA : ArR w na fa A) :
    FC Try.prog 19 [arV na fa nc fc A, .int .u64 r] w (Val (.bool (isMapB A r)) w) := by
  have hN := hA.nodes
  have hFr := hA.free
  refine FC.intro Try.func19 rfl Try.ntmps19 rfl ?_
  have S := Sub.refl w
  refine RC.seq ?_
  refine RC.region rfl ?_
  refine RL.box rfl rfl rfl (fun b_2 w_2 e_2 z_2 hb_2 s_2 => ?_)
  have ge_2 := S.le e_2
  have S := S.trans s_2
  have hb_2 : Has w_2 b_2 ([.slice na A.nodes.length nc, .slice fa A.free.length fc]) _ := hb_2
  refine RL.ev (.assign rfl) rfl rfl ?_
  refine RL.nil (RC.back ?_)
  refine RC.seq ?_
  refine RC.region rfl ?_
  refine RL.ev (.loadR ([.slice na A.nodes.length nc, .slice fa A.free.length fc]) sh28 rfl hb_2.row rfl) rfl rfl ?_
  refine RL.ev (.move rfl) rfl rfl ?_
  refine RL.buildSlice1 sl63 _ ze30 rfl rfl rfl rfl rfl rfl rfl (fun b_7 w_7 e_7 z_7 hb_7 s_7 => ?_)
  have ge_7 := S.le e_7
  have n_2__7 := hb_2.ne e_7
  have S := S.trans s_7
  have hb_2 := hb_2.sub s_7
  refine RL.call rfl ok28 (c_tright A na fa nc fc [r] 1 rfl (some ⟨b_7, 0, none⟩) 1 (Nat.le_of_ble_eq_true rfl) (fun x hx => by rw [List.mem_singleton] at hx; rw [hx]; exact hr) w_7 (hA.sub S) (Has.sl1 (enc := u6) (l := [r]) hb_7)) rfl rfl ?_
  rintro _ w1 ⟨rfl, s2⟩
  have S := S.trans s2
  have hb_2 := hb_2.sub s2
  have hb_7 := hb_7.sub s2
  refine RL.ev (.assign rfl) rfl rfl ?_
  refine RL.nil (RC.back ?_)
  refine RC.done (rs := [.tmp 4]) (vs := [_]) rfl rfl ⟨rfl, trivial⟩ ?_
  -- end 1
  refine ⟨congrArg Value.bool ?_, S⟩
  rw [allMaps, List.all_cons, List.all_nil, Bool.and_true, isMapB_ok]

/-! ### the reference -/
def itV (x : It) : List Value := [.int .i64 x.k, .int .i64 x.v]
theorem c_top (l : List It) (a : Option Addr) (c m : Nat) (hm : m = l.length) (w : World) (hl : Sl w a 2 (l.map It.cells)) (hb : l.length ≤ 1000000000) :
    FC Try.prog 27 [.slice a m c] w (Val (.int .i64 (topL l)) w) := by
  subst hm
  refine FC.intro Try.func27 rfl Try.ntmps27 rfl ?_
  have S := Sub.refl w
  refine RC.seq ?_
  refine RC.region rfl ?_
  refine RL.ev (.assign rfl) rfl rfl ?_
  refine RL.nil (RC.back ?_)
  refine RC.seq ?_
  refine RC.region rfl ?_
  refine RL.ev (.assign rfl) rfl rfl ?_
  refine RL.nil (RC.back ?_)
  refine RC.seq ?_
  refine RC.seq ?_
  refine RC.region rfl ?_
  refine RL.ev (.move rfl) rfl rfl ?_
  refine RL.ev (.len sl23 rfl) rfl rfl ?_
  refine RL.ev (.move rfl) rfl rfl ?_
  refine RL.nil (RC.back ?_)
  refine RC.block ?_
  refine RC.loop (α := Nat × Int) (fun x => [(0, .slice a l.length c), (3, .int .i64 x.2), (6, .slice a l.length c), (7, .int .i64 (l.length : Int)), (8, .int .i64 (x.1 : Int))]) (fun x w1 => x.1 ≤ l.length ∧ x.2 = topAt l x.1 ∧ Sub w w1) (fun x => l.length - x.1) (0, -1) (keep_of (by repeat (first | exact trivial | refine And.intro rfl ?_))) (⟨Nat.zero_le _, rfl, S⟩) (fun x w1 hJ => ?_)
  obtain ⟨i, t⟩ := x; obtain ⟨hi, ht, S⟩ := hJ; simp only [] at hi ht; have htr := topAt_rng l i; rw [← ht] at htr
  refine RC.seq ?_
  refine RC.region rfl ?_
  refine RL.ev (.bin rfl rfl rfl) rfl rfl ?_
  refine RL.nil (RC.back ?_)
  refine RC.seq ?_
  refine RC.cond_dec rfl (fun h2 => ?_) (fun h2 => ?_)
  ·
    obtain ⟨x, hx⟩ := getSome (l := l) (i := i) (by omega)
    refine RC.skip (RC.back ?_)
    refine RC.seq ?_
    refine RC.block ?_
    refine RC.seq ?_
    refine RC.region rfl ?_
    refine RL.ev (.move rfl) rfl rfl ?_
    refine RL.ev (.indexS sl23 rfl rfl (by omega) (hl.is (i := 0) (by simp only [List.length_map]; omega))) rfl rfl ?_
    refine RL.ev (.loadR (x.cells) sh42 rfl ((hl.sub S).rowAt (enc := It.cells) (i := i) hx) rfl) rfl rfl ?_
    refine RL.alloc ze42 rfl rfl (fun b_5 w_5 e_5 z_5 hb_5 s_5 => ?_)
    have ge_5 := S.le e_5
    have S := S.trans s_5
    refine RL.ev (.assign rfl) rfl rfl ?_
    refine RL.store sh42 rfl rfl rfl hb_5 (by exact Nat.le_of_ble_eq_true rfl) (by rfl) rfl (fun w3 z3 hb_5 a3 => ?_)
    have S := S.upd a3 ge_5
    have hb_5 : Has w3 b_5 (x.cells) _ := hb_5.now (by kernel_rfl)
    refine RL.nil (RC.back ?_)
    refine RC.seq ?_
    refine RC.draw rfl mxo (by kernel_rfl) ?_
    refine RQ.ev (.move rfl) rfl rfl ?_
    refine RQ.ev (.bin rfl rfl rfl) rfl rfl ?_
    refine RQ.ev (.move rfl) rfl rfl ?_
    refine RQ.split 15 rfl (fun h4 => ?_) (fun h4 => ?_)
    ·
      have hge : topAt l (i + 1) = i := (by rw [topAt, if_pos]; left; rw [← ht]; exact h4)
      refine RQ.off rfl rfl ?_
      refine RQ.off rfl rfl ?_
      refine RQ.off rfl rfl ?_
      refine RQ.off rfl rfl ?_
      refine RQ.off rfl rfl ?_
      refine RQ.off rfl rfl ?_
      refine RQ.off rfl rfl ?_
      refine RQ.off rfl rfl ?_
      refine RQ.ev (.pick_t rfl rfl) rfl rfl ?_
      refine RQ.nil (fun w5 s6 => RC.back ?_)
      have S := S.trans s6
      have hb_5 := hb_5.sub s6
      refine RC.cond_t rfl ?_
      refine RC.region rfl ?_
      refine RL.ev (.move rfl) rfl rfl ?_
      refine RL.ev (.assign rfl) rfl rfl ?_
      refine RL.nil (RC.back ?_)
      refine RC.region rfl ?_
      refine RL.ev (.as (.bin rfl rfl rfl) (wi64 (y := ((i + 1 : Nat) : Int)) (by omega) (by omega))) rfl rfl ?_
      refine RL.ev (.move rfl) rfl rfl ?_
      exact RL.nil (fun a ka => ⟨(i + 1, _), ⟨by omega, hge.symm, S⟩, by omega, ka.keep (keep_of (by repeat (first | exact trivial | refine And.intro rfl ?_)))⟩)
    ·
      obtain ⟨z, hz⟩ := getSome (l := l) (i := t.toNat) (by omega)
      refine RQ.ev (.field0 fo42_0 rfl) rfl rfl ?_
      refine RQ.ev (.load1 sh2 rfl (hb_5.cell rfl)) rfl rfl ?_
      refine RQ.ev (.move rfl) rfl rfl ?_
      refine RQ.ev (.move rfl) rfl rfl ?_
      refine RQ.ev (.indexS sl23 rfl rfl (by omega) (hl.is (i := 0) (by simp only [List.length_map]; omega))) rfl rfl ?_
      refine RQ.ev (.fieldA fo42_0 rfl) rfl rfl ?_
      refine RQ.ev (.load1 sh2 rfl ((hl.sub S).cell (enc := It.cells) (j := 0) hz rfl)) rfl rfl ?_
      refine RQ.call rfl ok38 (fun w' s' => c_refBefore x.k z.k w') rfl rfl ?_
      refine RQ.ev (.pick_f rfl rfl) rfl rfl ?_
      refine RQ.nil (fun w7 s8 => RC.back ?_)
      have S := S.trans s8
      have hb_5 := hb_5.sub s8
      refine RC.cond rfl (fun h9 => ?_) (fun h9 => ?_)
      ·
        have hge : topAt l (i + 1) = i := (by rw [topAt, if_pos]; right; rw [← ht, kAt_get hx, kAt_get hz]; exact h9)
        refine RC.region rfl ?_
        refine RL.ev (.move rfl) rfl rfl ?_
        refine RL.ev (.assign rfl) rfl rfl ?_
        refine RL.nil (RC.back ?_)
        refine RC.region rfl ?_
        refine RL.ev (.as (.bin rfl rfl rfl) (wi64 (y := ((i + 1 : Nat) : Int)) (by omega) (by omega))) rfl rfl ?_
        refine RL.ev (.move rfl) rfl rfl ?_
        exact RL.nil (fun a ka => ⟨(i + 1, _), ⟨by omega, hge.symm, S⟩, by omega, ka.keep (keep_of (by repeat (first | exact trivial | refine And.intro rfl ?_)))⟩)
      ·
        have hge : topAt l (i + 1) = t := (by rw [topAt, if_neg, ht]; rw [← ht, kAt_get hx, kAt_get hz, h9]; rintro (e | e); exact absurd e (by omega); cases e)
        refine RC.skip (RC.back ?_)
        refine RC.region rfl ?_
        refine RL.ev (.as (.bin rfl rfl rfl) (wi64 (y := ((i + 1 : Nat) : Int)) (by omega) (by omega))) rfl rfl ?_
        refine RL.ev (.move rfl) rfl rfl ?_
        exact RL.nil (fun a ka => ⟨(i + 1, _), ⟨by omega, hge.symm, S⟩, by omega, ka.keep (keep_of (by repeat (first | exact trivial | refine And.intro rfl ?_)))⟩)
  ·
    obtain rfl : i = l.length := (by omega)
    refine RC.exit rfl (RC.back ?_)
    refine RC.seq ?_
    refine RC.region rfl ?_
    refine RL.ev (.move rfl) rfl rfl ?_
    refine RL.ev (.assign rfl) rfl rfl ?_
    refine RL.nil (RC.back ?_)
    refine RC.done (rs := [.tmp 2]) (vs := [_]) rfl rfl ⟨rfl, trivial⟩ ?_
    -- end 1
    rw [ht]
    exact ⟨rfl, S⟩
end Go.Proofs.Ytdmaogopibljoaa
