/-
  What the statements about places share.
-/
import Derived.Test.YtdmaogopibljoaaOrderLawP
set_option linter.unusedVariables false
set_option linter.unusedSimpArgs false
namespace Go.Proofs.Ytdmaogopibljoaa
open Go Go.XL

section
variable {H : Type} {enc : TypeId × Value → H} {W : World} {base : Nat} {sp : Nat → Bool} {held : Bool} {v : Value} {d : DataW H} {ps : List MemPlace} {r : Reach} {b : Nat}
set_option maxRecDepth 100000 in
theorem open_i64s (hok : Value.okWide Try.prog W r b 22 v) (h : DataW.Trod enc Try.prog W base sp held 22 v d ps) : ∃ (a : Option Addr) (l : List Int) (c : Nat), v = .slice a l.length c ∧ l.length ≤ c ∧ c ≤ maxLen ∧ Sl W a 1 (l.map fun x => [i6 x]) ∧ ∀ x ∈ l, I64 x :=
  open_sl (fun x => [i6 x]) I64 sl22 rfl rfl fit_int hok h
end
def row3 : List It := [⟨1, 0⟩, ⟨5, 2⟩, ⟨9, 0⟩]
theorem row3_srt : Srt row3 := by unfold Srt row3; decide
theorem row3_ok : ∀ z ∈ row3, z.ok := by
  intro z hz
  simp only [row3, List.mem_cons, List.not_mem_nil, or_false] at hz
  rcases hz with rfl | rfl | rfl <;> exact ⟨by unfold I64; decide, by unfold I64; decide⟩
def few60 (A : Ar) : Ar := ⟨A.nodes.take 60, A.free.take 62⟩
theorem few60_R {w na fa A} (h : ArR w na fa A) : ArR w na fa (few60 A) :=
  ⟨by rw [few60, List.map_take]; exact h.nodes.take _, by rw [few60, List.map_take]; exact h.free.take _, fun x hx => h.nok x (List.mem_of_mem_take hx), fun x hx => h.fok x (List.mem_of_mem_take hx)⟩
end Go.Proofs.Ytdmaogopibljoaa
