/-
  The reference of the ordered maps: rows, whether a reference is a row's map, which references are maps'.
-/
import Derived.Test.YtjafbffehmombaaTreapRight
import Derived.Test.YtjafbffehmombaaForge
set_option linter.unusedVariables false
set_option linter.unusedSimpArgs false
namespace Go.Proofs.Ytjafbffehmombaa
open Go Go.XL

theorem srt_iff {l : List It} : Srt l ↔ ∀ i, i + 1 < l.length → kAt l i < kAt l (i + 1) := by
  have kk : ∀ i (h : i < l.length), kAt l i = l[i].k := fun i h => kAt_get (List.getElem?_eq_getElem h)
  constructor
  · intro h i hi
    rw [kk i (by omega), kk (i + 1) hi]
    exact List.pairwise_iff_getElem.1 h i (i + 1) (by omega) hi (by omega)
  · intro h
    refine List.pairwise_iff_getElem.2 fun i j hi hj hij => ?_
    have key : ∀ d, i + 1 + d < l.length → kAt l i < kAt l (i + 1 + d) := by
      intro d
      induction d with
      | zero => intro hd; exact h i hd
      | succ d ih => intro hd; have h1 := ih (by omega); have h2 := h (i + 1 + d) hd; rw [show i + 1 + d + 1 = i + 1 + (d + 1) by omega] at h2; omega
    have := key (j - i - 1) (by omega)
    rw [show i + 1 + (j - i - 1) = j by omega, kk i hi, kk j hj] at this
    exact this
noncomputable def srtB (l : List It) : Bool := @decide (Srt l) (Classical.propDecidable _)
theorem srtB_iff (l : List It) : srtB l = true ↔ Srt l := by unfold srtB; exact @decide_eq_true_iff _ (Classical.propDecidable _)
theorem srtB_no {l : List It} (h : ¬ Srt l) : srtB l = false := by rw [Bool.eq_false_iff]; exact fun e => h ((srtB_iff l).1 e)
theorem c_ordered (l : List It) (a : Option Addr) (c m : Nat) (hm : m = l.length) (w : World) (hl : Sl w a 2 (l.map It.cells)) (hb : l.length ≤ 1000000000) :
    FC Try.prog 30 [.slice a m c] w (Val (.bool (srtB l)) w) := by
  subst hm
  refine FC.intro Try.func30 rfl Try.ntmps30 rfl ?_
  have S := Sub.refl w
  refine RC.seq ?_
  refine RC.region rfl ?_
  refine RL.ev (.assign rfl) rfl rfl ?_
  refine RL.nil (RC.back ?_)
  refine RC.seq ?_
  refine RC.seq ?_
  refine RC.region rfl ?_
  refine RL.ev (.assign rfl) rfl rfl ?_
  refine RL.nil (RC.back ?_)
  refine RC.block ?_
  refine RC.loop (α := Nat) (fun i => [(0, .slice a l.length c), (3, .int .i64 (i : Int))]) (fun i w1 => (1 ≤ i ∧ (∀ j, j + 1 < i → j + 1 < l.length → kAt l j < kAt l (j + 1))) ∧ Sub w w1) (fun i => l.length + 1 - i) 1 (keep_of (by repeat (first | exact trivial | refine And.intro rfl ?_))) (⟨⟨by omega, fun j h => absurd h (by omega)⟩, S⟩) (fun i w1 hJ => ?_)
  obtain ⟨⟨hi, hp⟩, S⟩ := hJ
  refine RC.seq ?_
  refine RC.seq ?_
  refine RC.region rfl ?_
  refine RL.ev (.move rfl) rfl rfl ?_
  refine RL.ev (.move rfl) rfl rfl ?_
  refine RL.ev (.len sl22 rfl) rfl rfl ?_
  refine RL.ev (.bin rfl rfl rfl) rfl rfl ?_
  refine RL.nil (RC.back ?_)
  refine RC.cond_dec rfl (fun h2 => ?_) (fun h2 => ?_)
  ·
    obtain ⟨x, hx⟩ := getSome (l := l) (i := i - 1) (by omega)
    obtain ⟨y, hy⟩ := getSome (l := l) (i := i) (by omega)
    refine RC.skip (RC.back ?_)
    refine RC.seq ?_
    refine RC.block ?_
    refine RC.seq ?_
    refine RC.draw rfl mxo (by kernel_rfl) ?_
    refine RQ.ev (.move rfl) rfl rfl ?_
    refine RQ.ev (.move rfl) rfl rfl ?_
    refine RQ.ev (.as (.bin rfl rfl rfl) (wi64 (y := ((i - 1 : Nat) : Int)) (by omega) (by omega))) rfl rfl ?_
    refine RQ.ev (.indexS sl22 rfl rfl (by omega) (hl.is (i := 0) (by simp only [List.length_map, List.length_cons, List.length_nil]; omega))) rfl rfl ?_
    refine RQ.ev (.fieldA fo45_0 rfl) rfl rfl ?_
    refine RQ.ev (.load1 sh2 rfl ((hl.sub S).cell (enc := It.cells) (j := 0) hx rfl)) rfl rfl ?_
    refine RQ.ev (.move rfl) rfl rfl ?_
    refine RQ.ev (.move rfl) rfl rfl ?_
    refine RQ.ev (.indexS sl22 rfl rfl (by omega) (hl.is (i := 0) (by simp only [List.length_map, List.length_cons, List.length_nil]; omega))) rfl rfl ?_
    refine RQ.ev (.fieldA fo45_0 rfl) rfl rfl ?_
    refine RQ.ev (.load1 sh2 rfl ((hl.sub S).cell (enc := It.cells) (j := 0) hy rfl)) rfl rfl ?_
    refine RQ.ev (.bin rfl rfl rfl) rfl rfl ?_
    refine RQ.nil (fun w3 s4 => RC.back ?_)
    have S := S.trans s4
    refine RC.cond_dec rfl (fun h5 => ?_) (fun h5 => ?_)
    ·
      have hno : srtB l = false := srtB_no (fun h => by have := srt_iff.1 h (i - 1) (by omega); rw [show i - 1 + 1 = i by omega, kAt_get hx, kAt_get hy] at this; omega)
      refine RC.seq ?_
      refine RC.region rfl ?_
      refine RL.ev (.assign rfl) rfl rfl ?_
      refine RL.nil (RC.back ?_)
      refine RC.done (rs := [.tmp 2]) (vs := [_]) rfl rfl ⟨rfl, trivial⟩ ?_
      -- end 1
      rw [hno]
      exact ⟨rfl, S⟩
    ·
      have hxy := h5
      refine RC.skip (RC.back ?_)
      refine RC.region rfl ?_
      refine RL.ev (.move rfl) rfl rfl ?_
      refine RL.ev (.as (.bin rfl rfl rfl) (wi64 (y := ((i + 1 : Nat) : Int)) (by omega) (by omega))) rfl rfl ?_
      refine RL.ev (.assign rfl) rfl rfl ?_
      exact RL.nil (fun a ka => ⟨i + 1, ⟨⟨by omega, fun j h h2 => by rcases Nat.lt_or_ge (j + 1) i with q | q; exact hp j q h2; obtain rfl : i = j + 1 := (by omega); rw [Nat.add_sub_cancel] at hx; rw [kAt_get hx, kAt_get hy]; omega⟩, S⟩, by omega, ka.keep (keep_of (by repeat (first | exact trivial | refine And.intro rfl ?_)))⟩)
  ·
    have hyes : srtB l = true := (srtB_iff l).2 (srt_iff.2 fun j h => hp j (by omega) h)
    refine RC.exit rfl (RC.back ?_)
    refine RC.seq ?_
    refine RC.region rfl ?_
    refine RL.ev (.assign rfl) rfl rfl ?_
    refine RL.nil (RC.back ?_)
    refine RC.done (rs := [.tmp 2]) (vs := [_]) rfl rfl ⟨rfl, trivial⟩ ?_
    -- end 2
    rw [hyes]
    exact ⟨rfl, S⟩

noncomputable def refRightB (A : Ar) (r : Int) : Bool := isMapB A r
end Go.Proofs.Ytjafbffehmombaa
