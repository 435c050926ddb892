/-
  The statements of the layer arena: what they use.
-/
import Derived.Test.YtjafbffehmombaaArenaPlain
import Derived.Test.YtjafbffehmombaaOpen
import Derived.ChangeSame
set_option linter.unusedVariables false
set_option linter.unusedSimpArgs false
namespace Go.Proofs.Ytjafbffehmombaa
open Go Go.XL

theorem wfI {a : Int} (h : (Lit.int .i64 a).wf = true) : I64 a := by
  simp [Lit.wf, IntKind.min, IntKind.max, IntKind.signed, IntKind.bits] at h
  unfold I64
  omega
theorem wfU {a : Int} (h : (Lit.int .u64 a).wf = true) : U64 a := by
  simp [Lit.wf, IntKind.min, IntKind.max, IntKind.signed, IntKind.bits] at h
  unfold U64
  omega
theorem fitI {v : Value} (h : fitR (some .i64) v) : ∃ a, v = .int .i64 a ∧ I64 a := by
  obtain ⟨a, h1, h2⟩ := fitR_int h
  exact ⟨a, h1, wfI h2⟩
theorem fitU {v : Value} (h : fitR (some .u64) v) : ∃ a, v = .int .u64 a ∧ U64 a := by
  obtain ⟨a, h1, h2⟩ := fitR_int h
  exact ⟨a, h1, wfU h2⟩
def nodeK : List (Option IntKind) := [some .i64, some .i64, some .i64, some .i64, some .i64, some .u64, some .u64, some .u64, some .u64, some .u64, some .u64, some .u64, some .u64, some .u64, some .i64, some .i64]
theorem fit_node (r : List Value) (h : fitsR nodeK r) : ∃ x : Node, r = x.cells ∧ x.ok := by
  obtain ⟨_, _, rfl, h0, h⟩ := fitsR_cons h
  obtain ⟨_, _, rfl, h1, h⟩ := fitsR_cons h
  obtain ⟨_, _, rfl, h2, h⟩ := fitsR_cons h
  obtain ⟨_, _, rfl, h3, h⟩ := fitsR_cons h
  obtain ⟨_, _, rfl, h4, h⟩ := fitsR_cons h
  obtain ⟨_, _, rfl, h5, h⟩ := fitsR_cons h
  obtain ⟨_, _, rfl, h6, h⟩ := fitsR_cons h
  obtain ⟨_, _, rfl, h7, h⟩ := fitsR_cons h
  obtain ⟨_, _, rfl, h8, h⟩ := fitsR_cons h
  obtain ⟨_, _, rfl, h9, h⟩ := fitsR_cons h
  obtain ⟨_, _, rfl, h10, h⟩ := fitsR_cons h
  obtain ⟨_, _, rfl, h11, h⟩ := fitsR_cons h
  obtain ⟨_, _, rfl, h12, h⟩ := fitsR_cons h
  obtain ⟨_, _, rfl, h13, h⟩ := fitsR_cons h
  obtain ⟨_, _, rfl, h14, h⟩ := fitsR_cons h
  obtain ⟨_, _, rfl, h15, h⟩ := fitsR_cons h
  obtain rfl := fitsR_nil h
  obtain ⟨a0, rfl, g0⟩ := fitI h0
  obtain ⟨a1, rfl, g1⟩ := fitI h1
  obtain ⟨a2, rfl, g2⟩ := fitI h2
  obtain ⟨a3, rfl, g3⟩ := fitI h3
  obtain ⟨a4, rfl, g4⟩ := fitI h4
  obtain ⟨a5, rfl, g5⟩ := fitU h5
  obtain ⟨a6, rfl, g6⟩ := fitU h6
  obtain ⟨a7, rfl, g7⟩ := fitU h7
  obtain ⟨a8, rfl, g8⟩ := fitU h8
  obtain ⟨a9, rfl, g9⟩ := fitU h9
  obtain ⟨a10, rfl, g10⟩ := fitU h10
  obtain ⟨a11, rfl, g11⟩ := fitU h11
  obtain ⟨a12, rfl, g12⟩ := fitU h12
  obtain ⟨a13, rfl, g13⟩ := fitU h13
  obtain ⟨a14, rfl, g14⟩ := fitI h14
  obtain ⟨a15, rfl, g15⟩ := fitI h15
  refine ⟨⟨a0, a1, a2, a3, a4, a5, a6, a7, a8, a9, a10, a11, a12, a13, a14, a15⟩, rfl, g0, g1, g2, g3, g4, ?_, g14, g15⟩
  intro k hk
  simp only [Node.kids, List.mem_cons, List.not_mem_nil, or_false] at hk
  rcases hk with rfl | rfl | rfl | rfl | rfl | rfl | rfl | rfl | rfl <;> assumption
theorem fit_int (r : List Value) (h : fitsR [some .i64] r) : ∃ x : Int, r = [i6 x] ∧ I64 x := by
  obtain ⟨_, _, rfl, h0, h⟩ := fitsR_cons h
  obtain rfl := fitsR_nil h
  obtain ⟨a, rfl, g⟩ := fitI h0
  exact ⟨a, rfl, g⟩
theorem fit_ref (r : List Value) (h : fitsR [some .u64] r) : ∃ x : Int, r = [u6 x] ∧ U64 x := by
  obtain ⟨_, _, rfl, h0, h⟩ := fitsR_cons h
  obtain rfl := fitsR_nil h
  obtain ⟨a, rfl, g⟩ := fitU h0
  exact ⟨a, rfl, g⟩

section
variable {H : Type} {enc : TypeId × Value → H} {W : World} {base : Nat} {sp : Nat → Bool} {held : Bool} {v : Value} {d : DataW H} {ps : List MemPlace} {r : Reach} {b : Nat}
set_option maxRecDepth 100000 in
theorem open_ints (hok : Value.okWide Try.prog W r b 99 v) (h : DataW.Trod enc Try.prog W base sp held 99 v d ps) : ∃ (a : Option Addr) (l : List Int) (c : Nat), v = .slice a l.length c ∧ l.length ≤ c ∧ c ≤ maxLen ∧ Sl W a 1 (l.map fun x => [i6 x]) ∧ ∀ x ∈ l, I64 x :=
  open_sl (fun x => [i6 x]) I64 sl99 rfl rfl fit_int hok h
end

def fewA (A : Ar) : Ar := ⟨A.nodes.take 40, A.free.take 42⟩
theorem fewA_R {w na fa A} (h : ArR w na fa A) : ArR w na fa (fewA A) :=
  ⟨by rw [fewA, List.map_take]; exact h.nodes.take _, by rw [fewA, List.map_take]; exact h.free.take _, fun x hx => h.nok x (List.mem_of_mem_take hx), fun x hx => h.fok x (List.mem_of_mem_take hx)⟩
theorem few_len (k : Nat) {α : Type} (l : List α) : (if (k : Int) < (l.length : Int) then (k : Int) else l.length).toNat = (l.take k).length := by
  rw [List.length_take]; split <;> omega

theorem make_third {A : Ar} {x : Node} {P1 P2 P3 : Prop} (hm : mayMake A x) (hp : 0 < A.free.length) (h : ¬ mayMake A x ∧ P1 ∨ mayMake A x ∧ A.free.length = 0 ∧ P2 ∨ mayMake A x ∧ 0 < A.free.length ∧ P3) : P3 := by
  rcases h with h | h | h
  · exact absurd hm h.1
  · omega
  · exact h.2.2
def n7 : Node := ⟨1, 0, 7, 0, 0, 0, 0, 0, 0, 0, 0, 0, 0, 0, 0, 0⟩
theorem n7_ok : n7.ok := ⟨by unfold I64 n7; decide, z64, by unfold I64 n7; decide, z64, z64, fun k hk => by simp [Node.kids, n7] at hk; subst hk; exact zu64, z64, z64⟩
theorem n7_may : mayMake (newA 2) n7 := ⟨newA_ok (by decide), by decide, by decide, by decide⟩

end Go.Proofs.Ytjafbffehmombaa
