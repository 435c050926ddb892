/-
  What is got of a reference, and its place as the reference tells it; small laws that many proofs want.
-/
import Derived.Test.YtefakjhfcgjhgaaArenaMakes
import Derived.Test.YtefakjhfcgjhgaaFt
set_option linter.unusedVariables false
set_option linter.unusedSimpArgs false
namespace Go.Proofs.Ytefakjhfcgjhgaa
open Go Go.XL

theorem getA_rng {A : Ar} {r : Int} {x : Node} (h : getA A r = some x) : 0 ≤ placeR r ∧ placeR r < A.nodes.length := by
  unfold getA at h
  split at h
  · cases h
  · split at h
    · cases h
    · rename_i y hy
      have := lt_of_get hy
      omega
theorem getA_nok {A : Ar} {r : Int} {x : Node} (h : getA A r = some x) : x ∈ A.nodes := by
  unfold getA at h
  split at h
  · cases h
  · split at h
    · cases h
    · rename_i y hy
      split at h
      · cases h
      · cases h; exact List.mem_of_getElem? hy
theorem getA_get {A : Ar} {r : Int} {x : Node} (h : getA A r = some x) : A.nodes[(placeR r).toNat]? = some x ∧ ¬ x.kind = 0 := by
  unfold getA at h
  split at h
  · cases h
  · split at h
    · cases h
    · rename_i y hy
      split at h
      · cases h
      · rename_i hn; cases h; exact ⟨hy, fun e => hn (.inl e)⟩
def atA (A : Ar) (r : Int) : Int := match getA A r with
  | some _ => placeR r
  | none => -1
theorem atA_no {A : Ar} {r : Int} (h : getA A r = none) : atA A r = -1 := by rw [atA, h]
theorem atA_yes {A : Ar} {r : Int} {x : Node} (h : getA A r = some x) : atA A r = placeR r := by rw [atA, h]
theorem placeR_not {r : Int} (h : ¬ nodeR r) : placeR r = -1 := if_neg h
theorem c_r4At (A : Ar) (na fa : Option Addr) (nc fc : Nat) (r : Int) (hr : U64 r) (w : World) (hA : ArR w na fa A) (hl : A.nodes.length ≤ 1000000000) :
    FC Try.prog 57 [arV na fa nc fc A, .int .u64 r] w (Val (.int .i64 (atA A r)) w) := by
  have hN := hA.nodes
  have hFr := hA.free
  have hu : 0 ≤ r ∧ r < 18446744073709551616 := hr
  have nodeq : r = 0 ∨ gen3 r < 0 → atA A r = -1 := by
    intro h
    refine atA_no (getA_neg (.inl ?_))
    rw [placeR_not]
    · omega
    · intro hn
      have hn2 := (nodeR_iff r).1 hn
      rcases h with h | h
      · exact hn2.1 h
      · have := (gen3_not r hr hn2.1).1 h
        rw [hn.2] at this
        cases this
  refine FC.intro Try.func57 rfl Try.ntmps57 rfl ?_
  have S := Sub.refl w
  refine RC.seq ?_
  refine RC.region rfl ?_
  refine RL.box rfl rfl rfl (fun b_2 w_2 e_2 z_2 hb_2 s_2 => ?_)
  have ge_2 := S.le e_2
  have S := S.trans s_2
  have hb_2 : Has w_2 b_2 ([.slice na A.nodes.length nc, .slice fa A.free.length fc]) _ := hb_2
  refine RL.ev (.assign rfl) rfl rfl ?_
  refine RL.nil (RC.back ?_)
  refine RC.seq ?_
  refine RC.seq ?_
  refine RC.region rfl ?_
  refine RL.ev (.move rfl) rfl rfl ?_
  refine RL.ev (.bin rfl rfl rfl) rfl rfl ?_
  refine RL.ev (.move rfl) rfl rfl ?_
  refine RL.split 8 rfl (fun h1 => ?_) (fun h1 => ?_)
  ·
    have h0 := h1
    refine RL.off rfl rfl ?_
    refine RL.off rfl rfl ?_
    refine RL.off rfl rfl ?_
    refine RL.ev (.pick_t rfl rfl) rfl rfl ?_
    refine RL.nil (RC.back ?_)
    refine RC.cond_t rfl ?_
    refine RC.seq ?_
    refine RC.region rfl ?_
    refine RL.ev (.assign rfl) rfl rfl ?_
    refine RL.nil (RC.back ?_)
    refine RC.done (rs := [.tmp 4]) (vs := [_]) rfl rfl ⟨rfl, trivial⟩ ?_
    -- end 1
    rw [nodeq (.inl h0)]
    exact ⟨rfl, S⟩
  ·
    have h0 := h1
    refine RL.ev (.move rfl) rfl rfl ?_
    refine RL.call rfl ok67 (c_r3Gen r hr w_2) rfl rfl ?_
    rintro _ w2 ⟨rfl, s3⟩
    have S := S.trans s3
    have hb_2 := hb_2.sub s3
    refine RL.ev (.bin rfl rfl rfl) rfl rfl ?_
    refine RL.ev (.pick_f rfl rfl) rfl rfl ?_
    refine RL.nil (RC.back ?_)
    refine RC.cond_dec rfl (fun h4 => ?_) (fun h4 => ?_)
    ·
      have h1 := h4
      refine RC.seq ?_
      refine RC.region rfl ?_
      refine RL.ev (.assign rfl) rfl rfl ?_
      refine RL.nil (RC.back ?_)
      refine RC.done (rs := [.tmp 4]) (vs := [_]) rfl rfl ⟨rfl, trivial⟩ ?_
      -- end 2
      rw [nodeq (.inr h1)]
      exact ⟨rfl, S⟩
    ·
      have hnode : nodeR r := ⟨h0, Bool.of_not_eq_false (mt (gen3_not r hr h0).2 h4)⟩
      have hn2 := (nodeR_iff r).1 hnode
      have hpl : placeR r = r % 65536 - 1 := if_pos hnode
      have hg3 : gen3 r = genR r := (by rw [genR, if_pos hnode, gen3, if_neg (by omega)])
      refine RC.skip (RC.back ?_)
      refine RC.seq ?_
      refine RC.region rfl ?_
      refine RL.ev (.move rfl) rfl rfl ?_
      refine RL.ev (.as (v' := .int .u64 (r % 65536)) (.rem rfl rfl (by decide)) (by rw [tmodE hr.1])) rfl rfl ?_
      refine RL.ev (.as (.conv i28 i3 rfl) (wi64 (y := r % 65536) (by rfl) (by omega))) rfl rfl ?_
      refine RL.ev (.as (.bin rfl rfl rfl) (wi64 (y := placeR r) (by omega) (by omega))) rfl rfl ?_
      refine RL.ev (.assign rfl) rfl rfl ?_
      refine RL.nil (RC.back ?_)
      refine RC.seq ?_
      refine RC.seq ?_
      refine RC.draw rfl mxo (by kernel_rfl) ?_
      refine RQ.ev (.move rfl) rfl rfl ?_
      refine RQ.ev (.field0 fo26_0 rfl) rfl rfl ?_
      refine RQ.ev (.load1 sh23 rfl (hb_2.cell rfl)) rfl rfl ?_
      refine RQ.ev (.len sl23 rfl) rfl rfl ?_
      refine RQ.ev (.bin rfl rfl rfl) rfl rfl ?_
      refine RQ.ev (.move rfl) rfl rfl ?_
      refine RQ.split 22 rfl (fun h5 => ?_) (fun h5 => ?_)
      ·
        have hlen := h5
        refine RQ.off rfl rfl ?_
        refine RQ.off rfl rfl ?_
        refine RQ.off rfl rfl ?_
        refine RQ.off rfl rfl ?_
        refine RQ.off rfl rfl ?_
        refine RQ.off rfl rfl ?_
        refine RQ.off rfl rfl ?_
        refine RQ.ev (.pick_t rfl rfl) rfl rfl ?_
        refine RQ.ev (.move rfl) rfl rfl ?_
        refine RQ.off rfl rfl ?_
        refine RQ.off rfl rfl ?_
        refine RQ.off rfl rfl ?_
        refine RQ.off rfl rfl ?_
        refine RQ.off rfl rfl ?_
        refine RQ.off rfl rfl ?_
        refine RQ.off rfl rfl ?_
        refine RQ.off rfl rfl ?_
        refine RQ.off rfl rfl ?_
        refine RQ.ev (.pick_t rfl rfl) rfl rfl ?_
        refine RQ.nil (fun w6 s7 => RC.back ?_)
        have S := S.trans s7
        have hb_2 := hb_2.sub s7
        refine RC.cond_t rfl ?_
        refine RC.seq ?_
        refine RC.region rfl ?_
        refine RL.ev (.assign rfl) rfl rfl ?_
        refine RL.nil (RC.back ?_)
        refine RC.done (rs := [.tmp 4]) (vs := [_]) rfl rfl ⟨rfl, trivial⟩ ?_
        -- end 3
        rw [atA_no (getA_neg (by omega))]
        exact ⟨rfl, S⟩
      ·
        obtain ⟨x, hx⟩ := getSome (l := A.nodes) (i := (placeR r).toNat) (by omega)
        have hga := getA_at (by omega) hx
        refine RQ.ev (.field0 fo26_0 rfl) rfl rfl ?_
        refine RQ.ev (.load1 sh23 rfl (hb_2.cell rfl)) rfl rfl ?_
        refine RQ.ev (.move rfl) rfl rfl ?_
        refine RQ.ev (.indexS sl23 rfl rfl (by omega) (hN.is (i := 0) (by simp only [List.length_map]; omega))) rfl rfl ?_
        refine RQ.ev (.fieldA fo73_0 rfl) rfl rfl ?_
        refine RQ.ev (.load1 sh3 rfl ((hN.sub S).cell (enc := Node.cells) (j := 0) hx rfl)) rfl rfl ?_
        refine RQ.ev (.bin rfl rfl rfl) rfl rfl ?_
        refine RQ.ev (.pick_f rfl rfl) rfl rfl ?_
        refine RQ.ev (.move rfl) rfl rfl ?_
        refine RQ.split 31 rfl (fun h8 => ?_) (fun h8 => ?_)
        ·
          have hk := h8
          refine RQ.off rfl rfl ?_
          refine RQ.off rfl rfl ?_
          refine RQ.off rfl rfl ?_
          refine RQ.off rfl rfl ?_
          refine RQ.off rfl rfl ?_
          refine RQ.off rfl rfl ?_
          refine RQ.off rfl rfl ?_
          refine RQ.off rfl rfl ?_
          refine RQ.off rfl rfl ?_
          refine RQ.ev (.pick_t rfl rfl) rfl rfl ?_
          refine RQ.nil (fun w9 s10 => RC.back ?_)
          have S := S.trans s10
          have hb_2 := hb_2.sub s10
          refine RC.cond_t rfl ?_
          refine RC.seq ?_
          refine RC.region rfl ?_
          refine RL.ev (.assign rfl) rfl rfl ?_
          refine RL.nil (RC.back ?_)
          refine RC.done (rs := [.tmp 4]) (vs := [_]) rfl rfl ⟨rfl, trivial⟩ ?_
          -- end 4
          rw [atA_no (hga.trans (if_pos (.inl hk)))]
          exact ⟨rfl, S⟩
        ·
          have hk := h8
          refine RQ.ev (.field0 fo26_0 rfl) rfl rfl ?_
          refine RQ.ev (.load1 sh23 rfl (hb_2.cell rfl)) rfl rfl ?_
          refine RQ.ev (.move rfl) rfl rfl ?_
          refine RQ.ev (.indexS sl23 rfl rfl (by omega) (hN.is (i := 0) (by simp only [List.length_map]; omega))) rfl rfl ?_
          refine RQ.ev (.fieldA fo73_1 rfl) rfl rfl ?_
          refine RQ.ev (.load1 sh3 rfl ((hN.sub S).cell (enc := Node.cells) (j := 1) hx rfl)) rfl rfl ?_
          refine RQ.ev (.move rfl) rfl rfl ?_
          refine RQ.call rfl ok67 (fun w' s' => c_r3Gen r hr w') rfl rfl ?_
          refine RQ.ev (.bin rfl rfl rfl) rfl rfl ?_
          refine RQ.ev (.pick_f rfl rfl) rfl rfl ?_
          refine RQ.nil (fun w11 s12 => RC.back ?_)
          have S := S.trans s12
          have hb_2 := hb_2.sub s12
          refine RC.cond_dec rfl (fun h13 => ?_) (fun h13 => ?_)
          ·
            have hg := h13
            refine RC.seq ?_
            refine RC.region rfl ?_
            refine RL.ev (.assign rfl) rfl rfl ?_
            refine RL.nil (RC.back ?_)
            refine RC.done (rs := [.tmp 4]) (vs := [_]) rfl rfl ⟨rfl, trivial⟩ ?_
            -- end 5
            rw [atA_no (hga.trans (if_pos (.inr (by omega))))]
            exact ⟨rfl, S⟩
          ·
            have hg := h13
            refine RC.skip (RC.back ?_)
            refine RC.seq ?_
            refine RC.region rfl ?_
            refine RL.ev (.move rfl) rfl rfl ?_
            refine RL.ev (.assign rfl) rfl rfl ?_
            refine RL.nil (RC.back ?_)
            refine RC.done (rs := [.tmp 4]) (vs := [_]) rfl rfl ⟨rfl, trivial⟩ ?_
            -- end 6
            rw [atA_yes (hga.trans (if_neg (by rintro (e | e); exact hk e; omega)))]
            exact ⟨rfl, S⟩
theorem add_add (a : Addr) (i j : Nat) : (a.add i).add j = a.add (i + j) := by
  unfold Addr.add
  by_cases hi : i = 0
  · subst hi; simp
  · by_cases hj : j = 0
    · subst hj; simp
    · rw [if_neg hj, if_neg hi, if_neg (by omega), Nat.add_assoc]
theorem kids_row {w : World} {ad : Addr} {x : Node} (h : Row w ad x.cells) : Row w (ad.add 5) (x.kids.map u6) := by
  intro i v hv
  have hi : i < 9 := by have := lt_of_get hv; simpa [Node.kids] using this
  have e : (ad.add 5).add i = ad.add (5 + i) := by rw [add_add]
  rw [e]
  refine h (5 + i) v ?_
  rcases i with _|_|_|_|_|_|_|_|_|i
  all_goals first | exact hv | omega
theorem atA_form (A : Ar) (r : Int) : (atA A r < 0 → getA A r = none) ∧ (¬ atA A r < 0 → ∃ x, getA A r = some x ∧ atA A r = placeR r) := by
  cases h : getA A r with
  | none => rw [atA_no h]; exact ⟨fun _ => rfl, fun h => absurd h (by omega)⟩
  | some x => rw [atA_yes h]; have := getA_rng h; exact ⟨fun h => absurd h (by omega), fun _ => ⟨x, rfl, rfl⟩⟩
theorem c_r4hasM (l : List Int) (x : Int) (a : Option Addr) (c m : Nat) (hm : m = l.length) (w : World) (hs : Sl w a 1 (l.map fun x => [i6 x])) (hlen : l.length ≤ 1000000000) :
    FC Try.prog 55 [.slice a m c, .int .i64 x] w (Val (.int .i64 (l.count x : Int)) w) := by
  subst hm; exact c_r4has l x a c w hs hlen
theorem ext_ints {l m : List Int} {n : Nat} (hl : l.length = n) (hm : m.length = n) (h : ∀ j, j < n → l[j]? = m[j]?) : l = m := by
  apply List.ext_getElem?
  intro j
  by_cases hj : j < n
  · exact h j hj
  · rw [List.getElem?_eq_none (by omega), List.getElem?_eq_none (by omega)]
theorem getV_form2 (A : Ar) (r : Int) : ∃ (y : Node) (e : Int), getV A r = .tuple #[y.val, .int .i64 e] ∧ (∀ x, getA A r = some x → y = x ∧ e = 0) ∧ (getA A r = none → y = bareN 0 ∧ e = 4) := by
  cases h : getA A r with
  | none => exact ⟨bareN 0, 4, getV_no h, fun x h => (by cases h), fun _ => ⟨rfl, rfl⟩⟩
  | some x => exact ⟨x, 0, getV_yes h, fun y h => (by cases h; exact ⟨rfl, rfl⟩), fun h => (by cases h)⟩
theorem make_bad {A B : Ar} {x : Node} {r e : Int} (hm : ¬ mayMake A x) (h0 : e = 0 → mayMake A x ∧ 0 < A.free.length ∧ B = makeA A x ∧ r = makeR A) (h1 : ¬ e = 0 → B = ar0 ∧ r = 0 ∧ (¬ mayMake A x ∧ e = 1 ∨ mayMake A x ∧ A.free.length = 0 ∧ e = 2)) : e = 1 ∧ B.nodes.length = 0 ∧ r = 0 := by
  by_cases he : e = 0
  · exact absurd (h0 he).1 hm
  · obtain ⟨hB, hr, h | h⟩ := h1 he
    · exact ⟨h.2, by rw [hB]; rfl, hr⟩
    · exact absurd h.1 hm
theorem make_empty {A B : Ar} {x : Node} {r e : Int} (hm : mayMake A x) (hp : A.free.length = 0) (h0 : e = 0 → mayMake A x ∧ 0 < A.free.length ∧ B = makeA A x ∧ r = makeR A) (h1 : ¬ e = 0 → B = ar0 ∧ r = 0 ∧ (¬ mayMake A x ∧ e = 1 ∨ mayMake A x ∧ A.free.length = 0 ∧ e = 2)) : e = 2 ∧ B.nodes.length = 0 ∧ r = 0 := by
  by_cases he : e = 0
  · have := (h0 he).2.1; omega
  · obtain ⟨hB, hr, h | h⟩ := h1 he
    · exact absurd hm h.1
    · exact ⟨h.2.2, by rw [hB]; rfl, hr⟩
theorem make_good {A B : Ar} {x : Node} {r e : Int} (hm : mayMake A x) (hp : 0 < A.free.length) (h0 : e = 0 → mayMake A x ∧ 0 < A.free.length ∧ B = makeA A x ∧ r = makeR A) (h1 : ¬ e = 0 → B = ar0 ∧ r = 0 ∧ (¬ mayMake A x ∧ e = 1 ∨ mayMake A x ∧ A.free.length = 0 ∧ e = 2)) : e = 0 ∧ B = makeA A x ∧ r = makeR A := by
  by_cases he : e = 0
  · exact ⟨he, (h0 he).2.2⟩
  · obtain ⟨hB, hr, h | h⟩ := h1 he
    · exact absurd hm h.1
    · omega
theorem getA_same {A B : Ar} {r : Int} (h : A.nodes[(placeR r).toNat]? = B.nodes[(placeR r).toNat]?) : getA A r = getA B r := by unfold getA; rw [h]
theorem idx_map {α β : Type} {l : List α} {f : α → β} {j : Nat} (h : j < l.length) : 0 ≤ (j : Int) ∧ (j : Int) < ((l.map f).length : Nat) := by rw [List.length_map]; omega
theorem place_node {r : Int} (h : 0 ≤ placeR r) : placeR r = r % 65536 - 1 := by
  unfold placeR at *
  split at h
  · rw [if_pos ‹_›]
  · omega
theorem bne_iff {p q : Prop} [Decidable p] [Decidable q] (h : p ↔ q) : (!(decide p == decide q)) = false := by cases hp : decide p <;> cases hq : decide q <;> simp_all
end Go.Proofs.Ytefakjhfcgjhgaa
