/-
  A block of rows that the call owns whole: copy, clear, append in place, append of zeros; two slices of two blocks do not overlap.
-/
import Derived.Test.YtjafbffehmombaaFacts
import Derived.Lib.Overlaps
import Derived.Lib.AppendZerosOnto
set_option linter.unusedVariables false
set_option linter.unusedSimpArgs false
namespace Go.Proofs.Ytjafbffehmombaa
open Go Go.XL

theorem splice_eq (vs cs : List Value) (o : Nat) (h : o + vs.length ≤ cs.length) : splice cs o vs = cs.take o ++ vs ++ cs.drop (o + vs.length) := by
  refine List.ext_getElem? (fun k => ?_)
  rw [splice_get]
  have h1 : (cs.take o).length = o := by rw [List.length_take]; omega
  have h2 : (cs.take o ++ vs).length = o + vs.length := by rw [List.length_append, h1]
  by_cases q : k < o
  · rw [if_pos (by omega), if_neg (by omega), List.getElem?_append_left (by omega), List.getElem?_append_left (by omega), List.getElem?_take_of_lt q]
  · by_cases q2 : k < o + vs.length
    · rw [if_pos (by omega), if_pos ⟨by omega, q2⟩, List.getElem?_append_left (by omega), List.getElem?_append_right (by omega), h1]
    · rw [List.getElem?_append_right (by omega), h2, List.getElem?_drop]
      by_cases q3 : k < cs.length
      · rw [if_pos q3, if_neg (by omega), show o + vs.length + (k - (o + vs.length)) = k by omega]
      · rw [if_neg q3, List.getElem?_eq_none (by omega)]
theorem flat_take {s : Nat} {R : List (List Value)} (h : ∀ r ∈ R, r.length = s) (o : Nat) (ho : o ≤ R.length) : (R.take o).flatten = R.flatten.take (o * s) ∧ (R.drop o).flatten = R.flatten.drop (o * s) := by
  have hl : (R.take o).flatten.length = o * s := by
    rw [flat_len _ (fun r hr => h r (List.mem_of_mem_take hr)), List.length_take, Nat.min_eq_left ho]
  have e : R.flatten = (R.take o).flatten ++ (R.drop o).flatten := by rw [← List.flatten_append, List.take_append_drop]
  rw [e, ← hl]
  exact ⟨List.take_left.symm, List.drop_left.symm⟩
/-- rows put in the place of others -/
def blit (R : List (List Value)) (o : Nat) (l : List (List Value)) : List (List Value) := R.take o ++ l ++ R.drop (o + l.length)
theorem blit_len {R l : List (List Value)} {o : Nat} (h : o + l.length ≤ R.length) : (blit R o l).length = R.length := by
  unfold blit; rw [List.length_append, List.length_append, List.length_take, List.length_drop]; omega
theorem blit_rows {s : Nat} {R l : List (List Value)} {o : Nat} (hR : ∀ r ∈ R, r.length = s) (hl : ∀ r ∈ l, r.length = s) : ∀ r ∈ blit R o l, r.length = s := by
  intro r hr
  unfold blit at hr
  rcases List.mem_append.1 hr with hr | hr
  · rcases List.mem_append.1 hr with hr | hr
    · exact hR r (List.mem_of_mem_take hr)
    · exact hl r hr
  · exact hR r (List.mem_of_mem_drop hr)
theorem blit_take {R l : List (List Value)} {o : Nat} (h : o + l.length ≤ R.length) : (blit R o l).take o = R.take o ∧ (blit R o l).take (o + l.length) = R.take o ++ l := by
  unfold blit
  have h1 : (R.take o).length = o := by rw [List.length_take]; omega
  have h2 : (R.take o ++ l).length = o + l.length := by rw [List.length_append, h1]
  constructor
  · rw [List.append_assoc, List.take_append_of_le_length (by omega), List.take_of_length_le (by omega)]
  · rw [List.take_append_of_le_length (by omega), List.take_of_length_le (by omega)]
theorem blit_drop {R l : List (List Value)} {o k : Nat} (h : o + l.length ≤ R.length) (hk : o + l.length ≤ k) : (blit R o l).drop k = R.drop k := by
  unfold blit
  have h1 : (R.take o).length = o := by rw [List.length_take]; omega
  have h2 : (R.take o ++ l).length = o + l.length := by rw [List.length_append, h1]
  rw [List.drop_append, List.drop_of_length_le (by omega), List.nil_append, List.drop_drop, h2]
  congr 1; omega
theorem Has.slN {w : World} {b : Nat} {e : TypeId} {s : Nat} {R : List (List Value)} (h : Has w b R.flatten e) (hR : ∀ r ∈ R, r.length = s) (k : Nat) : Sl w (some ⟨b, 0, none⟩) s (R.take k) := (h.sl0 hR).take k
theorem sl_at {g lo cap m c s : Nat} (h : ¬ cap = lo) : Value.slice (if cap = lo then some ⟨g, 0, none⟩ else (some ⟨g, 0, none⟩ : Option Addr).map (·.add (lo * s))) m c = .slice (some ⟨g, lo * s, none⟩) m c := by
  rw [if_neg h]; simp [Addr.add_lit]
theorem sl_drop_at {w : World} {g s : Nat} {R : List (List Value)} (h : Sl w (some ⟨g, 0, none⟩) s R) (i : Nat) : Sl w (some ⟨g, i * s, none⟩) s (R.drop i) := by
  refine ⟨fun _ => rfl, fun j r hr => ?_⟩
  rw [List.getElem?_drop] at hr
  have := h.row (i + j) r hr
  simp only [Option.getD_some, Addr.add_lit] at this ⊢
  rw [← Nat.add_mul]
  simpa using this
theorem splice_blit {s : Nat} {R l : List (List Value)} {o : Nat} (hR : ∀ r ∈ R, r.length = s) (hl : ∀ r ∈ l, r.length = s) (h : o + l.length ≤ R.length) : splice R.flatten (o * s) l.flatten = (blit R o l).flatten := by
  have e1 := flat_len R hR
  have e2 := flat_len l hl
  have e3 : (o + l.length) * s ≤ R.length * s := Nat.mul_le_mul_right _ h
  rw [splice_eq _ _ _ (by rw [e1, e2, ← Nat.add_mul]; exact e3)]
  unfold blit
  rw [List.flatten_append, List.flatten_append, (flat_take hR o (by omega)).1, (flat_take hR (o + l.length) h).2, e2, ← Nat.add_mul]
theorem Sl.flatRow {w : World} {ad : Addr} {s : Nat} {l : List (List Value)} (hs' : 0 < s) (hll : ∀ r ∈ l, r.length = s) (hsl : Sl w (some ad) s l) : Row w ad l.flatten := by
  intro j u hj
  have hjl : j < l.length * s := by
    rw [← flat_len l hll]
    rcases Nat.lt_or_ge j l.flatten.length with q | q
    · exact q
    · rw [List.getElem?_eq_none q] at hj; cases hj
  have hd' : j / s < l.length := (Nat.div_lt_iff_lt_mul hs').2 hjl
  have hmod : j % s < s := Nat.mod_lt _ hs'
  have ej : j = (j / s) * s + j % s := by rw [Nat.mul_comm]; exact (Nat.div_add_mod j s).symm
  obtain ⟨r, hr⟩ : ∃ r, l[j / s]? = some r := ⟨_, List.getElem?_eq_getElem hd'⟩
  have hf := flat_get l hll (j / s) (j % s) r hr hmod
  rw [← ej, hj] at hf
  have hc := hsl.row (j / s) r hr (j % s) u hf.symm
  simp only [Option.getD_some] at hc
  rw [← hc]
  congr 1
  rw [ej]
  obtain ⟨bb, oo, sp⟩ := ad
  unfold Addr.add
  by_cases q1 : (j / s) * s = 0
  · rw [← ej]
    by_cases q2 : j % s = 0
    · rw [if_pos (by omega), if_pos q1, if_pos q2]
    · rw [if_neg (by omega), if_pos q1, if_neg q2]; simp only; congr 2; omega
  · rw [← ej]
    by_cases q2 : j % s = 0
    · rw [if_neg (by omega), if_neg q1, if_pos q2]; congr 1; omega
    · rw [if_neg (by omega), if_neg q1, if_neg q2]; simp only; congr 1; omega
theorem plain_flat {l : List (List Value)} (hp : l.all (fun r => r.all plainV) = true) : l.flatten.all plainV = true := by
  rw [List.all_eq_true]
  intro u hu
  obtain ⟨r, hr, hur⟩ := List.mem_flatten.1 hu
  exact List.all_eq_true.1 (List.all_eq_true.1 hp r hr) u hur
section
variable {P : Program} {n : Cx} {F : List (Nat × Value)} {w : World} {p : Post} {ops : Array Oper} {rest : List Oper} {d : Option Tmp} {t : TypeId} {pos : String} {af : Array Edge} {g : Option (Nat × Bool)}
theorem run_copyB {ty ty2 t : TypeId} {b o m c : Nat} {sa : Option Addr} {k c2 e s by_ : Nat} {R l : List (List Value)} (ht : sliceOf P ty = some (e, s, by_)) (hs' : 0 < s) (hb : Has w b R.flatten e) (hR : ∀ r ∈ R, r.length = s) (ho : o + min k m ≤ R.length) (hs : Sl w sa s l) (hk : k = l.length) (hl : ∀ r ∈ l, r.length = s) (hp : (l.take (min k m)).all (fun r => r.all plainV) = true) :
    ∃ w', (Builtin.copy_ #[ty, ty2] t #[.slice (some ⟨b, o * s, none⟩) m c, .slice sa k c2]).run P w = .ok (.int .i64 (min k m : Nat)) w' ∧ Has w' b (blit R o (l.take (min k m))).flatten e ∧ Agr (· = b) w w' ∧ w'.heap.size = w.heap.size := by
  obtain ⟨h1, i, h2, h3, h4⟩ := sliceOf_spec ht
  have hl' : ∀ r ∈ l.take (min k m), r.length = s := fun r hr => hl r (List.mem_of_mem_take hr)
  have hpl : (l.take (min k m)).flatten.all plainV = true := plain_flat hp
  have hlen : (l.take (min k m)).length = min k m := by rw [List.length_take]; omega
  have hfl : (l.take (min k m)).flatten.length = min k m * s := by rw [flat_len _ hl', hlen]
  have hcells : (Builtin.firstCells i.size (min k m) (.slice sa k c2)).run P w = .ok (l.take (min k m)).flatten.toArray w := by
    cases sa with
    | none =>
      have : l = [] := Classical.byContradiction fun e => by have := hs.some e; simp at this
      subst this
      simp [Builtin.firstCells, pure]
    | some a =>
      have hr := XL.run_loadCells (P := P) (Sl.flatRow hs' hl' (hs.take (min k m)))
      rw [hfl] at hr
      rw [h3]; exact hr
  have hfit : o * s + 0 + (l.take (min k m)).flatten.length ≤ R.flatten.length := by
    rw [hfl, flat_len R hR, Nat.add_zero, ← Nat.add_mul]; exact Nat.mul_le_mul_right _ ho
  obtain ⟨w', g1, g2, g3, g4⟩ := XL.run_storeCells (P := P) (o := o * s) (l.take (min k m)).flatten 0 R.flatten w hb hfit hpl
  refine ⟨w', ?_, ?_, g3, g4⟩
  · have hcells' : (Builtin.firstCells i.size (Nat.min k m) (.slice sa k c2)).run P w = .ok (l.take (min k m)).flatten.toArray w := hcells
    simp [Builtin.copy_, Go.run_underlying h1, sizeOf, typeInfo, h2, Builtin.lenOf, hcells', g1, goInt]
  · rw [Nat.add_zero, splice_blit hR hl' (by rw [hlen]; exact ho)] at g2
    exact g2
theorem RL.copyB {ty ty2 x y b o m c sa k c2 e s by_ R l} (ht : sliceOf P ty = some (e, s, by_)) (hs' : Nat.blt 0 s = true) (hx : XL.ev F x = some (.slice (some ⟨b, o * s, none⟩) m c)) (hy : XL.ev F y = some (.slice sa k c2)) (hb : Has w b R.flatten e) (hR : ∀ r ∈ R, r.length = s) (ho : o + min k m ≤ R.length) (hs : Sl w sa s l) (hk : k = l.length) (hl : ∀ r ∈ l, r.length = s) (hp : (l.take (min k m)).all (fun r => r.all plainV) = true)
    (hg : gsat ops F g = some true) (hd : inB d n = true)
    (h : ∀ w', w'.heap.size = w.heap.size → Has w' b (blit R o (l.take (min k m))).flatten e → Agr (· = b) w w' → RL P n ops rest (upd F d (.int .i64 (min k m : Nat))) w' p) : RL P n ops (⟨d, .call ⟨.builtin .copy, #[x, y], #[ty, ty2]⟩, t, pos, af, g⟩ :: rest) F w p := by
  obtain ⟨w', g1, g2, g3, g4⟩ := run_copyB (ty2 := ty2) (t := t) (m := m) (c := c) (c2 := c2) ht (by simpa using hs') hb hR ho hs hk hl hp
  refine RL.on hg hd (fun ρ hρ => ?_) (h w' g4 g2 g3)
  simp only [execOp, resolve, hρ y _ hy, hρ x _ hx, bind, Sem.bind, pure, invoke, builtin, List.map_toArray, List.map_cons, List.map_nil]
  have := run_bind (P := P) (Builtin.copy_ #[ty, ty2] t #[.slice (some ⟨b, o * s, none⟩) m c, .slice sa k c2]) (fun v => (Sem.pure (Next.value v) : Sem Next)) w
  rw [g1] at this
  exact this
theorem firstCells_sl {w : World} {sa : Option Addr} {k c2 s : Nat} {l : List (List Value)} (hs' : 0 < s) (hs : Sl w sa s l) (hl : ∀ r ∈ l, r.length = s) (m : Nat) (hm : m ≤ l.length) : (Builtin.firstCells s m (.slice sa k c2)).run P w = .ok (l.take m).flatten.toArray w := by
  have hl' : ∀ r ∈ l.take m, r.length = s := fun r hr => hl r (List.mem_of_mem_take hr)
  have hfl : (l.take m).flatten.length = m * s := by rw [flat_len _ hl', List.length_take, Nat.min_eq_left hm]
  cases sa with
  | none =>
    have : l = [] := Classical.byContradiction fun e => by have := hs.some e; simp at this
    subst this
    simp [Builtin.firstCells, pure]
  | some a =>
    have hr := XL.run_loadCells (P := P) (Sl.flatRow hs' hl' (hs.take m))
    rw [hfl] at hr
    exact hr
theorem RL.appendB {ty x y b o c sa k c2 e s by_ R l} (ht : sliceOf P ty = some (e, s, by_)) (hs' : Nat.blt 0 s = true) (hy : XL.ev F y = some (.slice (some ⟨b, 0, none⟩) o c)) (hx : XL.ev F x = some (.slice sa k c2)) (hb : Has w b R.flatten e) (hR : ∀ r ∈ R, r.length = s) (hoc : o + k ≤ c) (ho : o + k ≤ R.length) (hs : Sl w sa s l) (hk : k = l.length) (hl : ∀ r ∈ l, r.length = s) (hp : l.all (fun r => r.all plainV) = true)
    (hg : gsat ops F g = some true) (hd : inB d n = true)
    (h : ∀ w', w'.heap.size = w.heap.size → Has w' b (blit R o l).flatten e → Agr (· = b) w w' → RL P n ops rest (upd F d (.slice (some ⟨b, 0, none⟩) (o + k) c)) w' p) : RL P n ops (⟨d, .call ⟨.builtin .append, #[y, x], #[ty, ty]⟩, t, pos, af, g⟩ :: rest) F w p := by
  have hs2 : 0 < s := by simpa using hs'
  obtain ⟨h1, i, h2, h3, h4⟩ := sliceOf_spec ht
  have hcells : (Builtin.firstCells i.size k (.slice sa k c2)).run P w = .ok l.flatten.toArray w := by
    have := firstCells_sl (P := P) (k := k) (c2 := c2) hs2 hs hl k (by omega)
    rw [h3, this, hk, List.take_length]
  have hfl : l.flatten.length = k * s := by rw [flat_len _ hl, hk]
  have hfit : o * s + 0 + l.flatten.length ≤ R.flatten.length := by
    rw [hfl, flat_len R hR, Nat.add_zero, ← Nat.add_mul]; exact Nat.mul_le_mul_right _ ho
  obtain ⟨w', g1, g2, g3, g4⟩ := XL.run_storeCells (P := P) (o := o * s) l.flatten 0 R.flatten w hb hfit (plain_flat hp)
  have hadd : (⟨b, 0, none⟩ : Addr).add (o * i.size) = ⟨b, o * s, none⟩ := by rw [Addr.add_lit, h3, Nat.zero_add]
  have hr : (Builtin.append_ #[ty, ty] t #[.slice (some ⟨b, 0, none⟩) o c, .slice sa k c2]).run P w = .ok (.slice (some ⟨b, 0, none⟩) (o + k) c) w' := by
    simp [Builtin.append_, Go.run_underlying h1, sizeOf, typeInfo, h2, Builtin.lenOf, hoc, hcells, hadd, g1]
  refine RL.on hg hd (fun ρ hρ => ?_) (h w' g4 (by rw [Nat.add_zero, splice_blit hR hl (by omega)] at g2; exact g2) g3)
  simp only [execOp, resolve, hρ y _ hy, hρ x _ hx, bind, Sem.bind, pure, invoke, builtin, List.map_toArray, List.map_cons, List.map_nil]
  have := run_bind (P := P) (Builtin.append_ #[ty, ty] t #[.slice (some ⟨b, 0, none⟩) o c, .slice sa k c2]) (fun v => (Sem.pure (Next.value v) : Sem Next)) w
  rw [hr] at this
  exact this
theorem RL.clearB {ty x b o m c e s by_ z} {R : List (List Value)} (ht : sliceOf P ty = some (e, s, by_)) (hz : zeroOf P e = some z) (hzs : z.cells.size = s) (hs' : Nat.blt 0 s = true) (hzp : z.cells.toList.all plainV = true) (hx : XL.ev F x = some (.slice (some ⟨b, o * s, none⟩) m c)) (hb : Has w b R.flatten e) (hR : ∀ r ∈ R, r.length = s) (ho : o + m ≤ R.length)
    (hg : gsat ops F g = some true) (hd : inB d n = true)
    (h : ∀ w', w'.heap.size = w.heap.size → Has w' b (blit R o (List.replicate m z.cells.toList)).flatten e → Agr (· = b) w w' → RL P n ops rest (upd F d (.tuple #[])) w' p) : RL P n ops (⟨d, .call ⟨.builtin .clear, #[x], #[ty]⟩, t, pos, af, g⟩ :: rest) F w p := by
  have hs2 : 0 < s := by simpa using hs'
  obtain ⟨h1, i, h2, h3, h4⟩ := sliceOf_spec ht
  obtain ⟨i', hi', hzz⟩ := zeroOf_spec hz
  rw [h2] at hi'; cases hi'
  have hl : ∀ r ∈ List.replicate m z.cells.toList, r.length = s := fun r hr => by rw [(List.mem_replicate.1 hr).2, Array.length_toList, hzs]
  have hfl : (List.replicate m z.cells.toList).flatten.length = m * s := by rw [flat_len _ hl, List.length_replicate]
  have hfit : o * s + 0 + (List.replicate m z.cells.toList).flatten.length ≤ R.flatten.length := by
    rw [hfl, flat_len R hR, Nat.add_zero, ← Nat.add_mul]; exact Nat.mul_le_mul_right _ ho
  have hpl : (List.replicate m z.cells.toList).flatten.all plainV = true := plain_flat (by rw [List.all_eq_true]; intro r hr; rw [(List.mem_replicate.1 hr).2]; exact hzp)
  obtain ⟨w', g1, g2, g3, g4⟩ := XL.run_storeCells (P := P) (o := o * s) (List.replicate m z.cells.toList).flatten 0 R.flatten w hb hfit hpl
  have g2 : Has w' b (blit R o (List.replicate m z.cells.toList)).flatten e := by rw [Nat.add_zero, splice_blit hR hl (by rw [List.length_replicate]; exact ho)] at g2; exact g2
  have hzc : Builtin.zeroCells z.cells m = (List.replicate m z.cells.toList).flatten.toArray := by
    unfold Builtin.zeroCells
    exact zeros_list z.cells (by omega) m
  have fin : ∀ w'', (Builtin.clear_ #[ty] t #[.slice (some ⟨b, o * s, none⟩) m c]).run P w = .ok (.tuple #[]) w'' → RL P n ops rest (upd F d (.tuple #[])) w'' p → RL P n ops (⟨d, .call ⟨.builtin .clear, #[x], #[ty]⟩, t, pos, af, g⟩ :: rest) F w p := by
    intro w'' hr hw
    refine RL.on hg hd (fun ρ hρ => ?_) hw
    simp only [execOp, resolve, hρ x _ hx, bind, Sem.bind, pure, invoke, builtin, List.map_toArray, List.map_cons, List.map_nil]
    have := run_bind (P := P) (Builtin.clear_ #[ty] t #[.slice (some ⟨b, o * s, none⟩) m c]) (fun v => (Sem.pure (Next.value v) : Sem Next)) w
    rw [hr] at this
    exact this
  cases m with
  | zero =>
    refine fin w (by simp [Builtin.clear_, Go.run_underlying h1]) (h w rfl ?_ (Agr.refl _ _))
    simpa [blit] using hb
  | succ m =>
    exact fin w' (by simp [Builtin.clear_, Go.run_underlying h1, zeroValue, typeInfo, h2, hzz, hzc, g1]) (h w' g4 g2 g3)
theorem RL.appendZ {ty tn x y b o c k e s by_ z kq kn} {R : List (List Value)} (ht : sliceOf P ty = some (e, s, by_)) (htn : P.underlying tn = some (.int kn)) (hz : zeroOf P e = some z) (hzs : z.cells.size = s) (hs' : Nat.blt 0 s = true) (hy : XL.ev F y = some (.slice (some ⟨b, 0, none⟩) o c)) (hx : XL.ev F x = some (.int kq (k : Nat))) (hb : Has w b R.flatten e) (hR : ∀ r ∈ R, r.length = s) (hk : 0 < k) (hoc : c < o + k) (ho : o ≤ R.length)
    (hlen : (o + k) * by_ ≤ 140737488355328) (hlen' : o + k ≤ 140737488355328) (hg : gsat ops F g = some true) (hd : inB d n = true)
    (h : ∀ b' w' cap ex, b' = w.heap.size → o + k ≤ cap → Has w' b' (R.take o ++ List.replicate k z.cells.toList ++ List.replicate ex z.cells.toList).flatten e → cap = o + k + ex → Sub w w' → RL P n ops rest (upd F d (.slice (some ⟨b', 0, none⟩) (o + k) cap)) w' p) : RL P n ops (⟨d, .call ⟨.builtin .append, #[y, x], #[ty, tn]⟩, t, pos, af, g⟩ :: rest) F w p := by
  have hs2 : 0 < s := by simpa using hs'
  obtain ⟨h1, i, h2, h3, h4⟩ := sliceOf_spec ht
  obtain ⟨i', hi', hzz⟩ := zeroOf_spec hz
  rw [h2] at hi'; cases hi'
  have hold : (Builtin.firstCells i.size o (.slice (some ⟨b, 0, none⟩) o c)).run P w.drew = .ok (R.take o).flatten.toArray w.drew := by
    have hb' : Has w.drew b R.flatten e := hb
    rw [h3]
    exact firstCells_sl hs2 (hb'.sl0 hR) hR o ho
  have hge := grownCap_ge w (o + k) c e
  have hby : k * by_ ≤ (o + k) * by_ := Nat.mul_le_mul_right _ (by omega)
  have hr := Go.Lib.run_append_grow_zeros (P := P) w ty tn t e i z kq kn h1 htn h2 hzz (some ⟨b, 0, none⟩) o c (R.take o).flatten hold k hk (by omega) hoc (by omega) (by rw [h4]; omega) (growslice_fits (by omega) (by rw [h4]; exact hlen))
  have hzc : ∀ m, Builtin.zeroCells z.cells m = (List.replicate m z.cells.toList).flatten.toArray := fun m => by
    unfold Builtin.zeroCells
    exact zeros_list z.cells (by omega) m
  rw [hzc, hzc] at hr
  refine RL.on hg hd (fun ρ hρ => ?_) (h w.heap.size (w.drew.alloc (.cells ((R.take o).flatten.toArray ++ (List.replicate k z.cells.toList).flatten.toArray ++ (List.replicate (grownCap w (o + k) c e - (o + k)) z.cells.toList).flatten.toArray) e)) (grownCap w (o + k) c e) (grownCap w (o + k) c e - (o + k)) rfl hge ?_ (by omega) ⟨rfl, rfl, rfl, by simp, fun k hk => heap_alloc_old' w.drew _ hk⟩)
  · simp only [execOp, resolve, hρ y _ hy, hρ x _ hx, bind, Sem.bind, pure, invoke, builtin, List.map_toArray, List.map_cons, List.map_nil]
    have := run_bind (P := P) (Builtin.append_ #[ty, tn] t #[.slice (some ⟨b, 0, none⟩) o c, .int kq (k : Nat)]) (fun v => (Sem.pure (Next.value v) : Sem Next)) w
    rw [hr] at this
    exact this
  · have := heap_alloc_new w.drew (.cells ((R.take o).flatten.toArray ++ (List.replicate k z.cells.toList).flatten.toArray ++ (List.replicate (grownCap w (o + k) c e - (o + k)) z.cells.toList).flatten.toArray) e)
    unfold Has
    simp only [List.flatten_append]
    simpa using this
/-- two slices of two blocks do not overlap -/
theorem RL.overlapsF {f : FuncId} {fn : Func} {x y : Operand} {ts : Array TypeId} {tS tR e1 : TypeId} {a b : Addr} {la ca lb cb s by_ : Nat} {xs ys : List Value} {ea eb : TypeId} (hf : P.funcs[f]? = some fn) (hname : (fn.name == "runtime.NumGoroutine") = false) (hbd : fn.body.isNone = true) (hn : Extern.findNext fn = none) (he : Extern.find fn = some (Extern.SlicesOverlaps.overlaps #[tS, tS] #[tR]))
    (ht : sliceOf P tS = some (e1, s, by_)) (hx : XL.ev F x = some (.slice (some a) la ca)) (hy : XL.ev F y = some (.slice (some b) lb cb)) (ha : Has w a.block xs ea) (hb : Has w b.block ys eb) (hne : a.block ≠ b.block) (hys : ys ≠ [])
    (hg : gsat ops F g = some true) (hd : inB d n = true) (h : RL P n ops rest (upd F d (.bool false)) w p) : RL P n ops (⟨d, .call ⟨.value (.func f), #[x, y], ts⟩, t, pos, af, g⟩ :: rest) F w p := by
  obtain ⟨h1, i, h2, h3, h4⟩ := sliceOf_spec ht
  refine RL.on hg hd (v := .bool false) (w' := w) (fun ρ hρ => ?_) h
  have h0 : ρ (.func f) = .func (.func f) #[] #[] := hρ _ _ rfl
  simp only [execOp, resolve, h0, hρ x _ hx, hρ y _ hy, Deferred.ofValue, bind, Sem.bind, pure, invoke, List.map_toArray, List.map_cons, List.map_nil]
  have hsh : ∀ {k cs e}, Has w k cs e → w.shape? k = some (e, cs.length) := fun {k cs e} h => by
    unfold Has at h; simp [World.shape?, h]
  have ho := Go.Lib.run_overlaps_apart (P := P) w tS tR e1 h1 i.size (fun w => by simp [sizeOf, typeInfo, h2]) a b la ca lb cb hne ea eb xs.length ys.length (hsh ha) (hsh hb) (by cases ys with | nil => exact absurd rfl hys | cons _ _ => simp) ha.free ha.free
  have := run_callFunc_extern (P := P) hf hname hbd hn he #[.slice (some a) la ca, .slice (some b) lb cb] w
  rw [ho] at this
  simpa using this
theorem _root_.Go.XL.EvOp.sliceLHM {ty x lo hi_ mx a m c k i k' u k2 v e s by_} (ht : sliceOf P ty = some (e, s, by_)) (hx : XL.ev F x = some (.slice a m c)) (hl : XL.ev F lo = some (.int k i)) (hi : XL.ev F hi_ = some (.int k' u)) (hm : XL.ev F mx = some (.int k2 v)) (hb : 0 ≤ i ∧ i ≤ u ∧ u ≤ v ∧ v ≤ c) :
    EvOp P F (.slice ty x (some lo) (some hi_) (some mx)) w (.slice (if v.toNat = i.toNat then a else a.map (·.add (i.toNat * s))) (u.toNat - i.toNat) (v.toNat - i.toNat)) := fun _ _ _ _ _ ρ hρ w' _ => by
  obtain ⟨h1, j, h2, h3, h4⟩ := sliceOf_spec ht
  simp only [execOp]
  refine run_val _ ?_
  simp only [Instr.sliceAt, hρ x _ hx, Option.map_some, hρ hi_ _ hi, hρ lo _ hl, hρ mx _ hm]
  rw [XL.run_underlying h1]
  simp only [Instr.slice]
  rw [XL.run_underlying h1]
  simp only [Instr.sliceBounds]
  rw [run_bind, run_bind, run_sliceBound (by omega)]
  simp only []
  rw [run_bind, run_sliceBound (by omega)]
  simp only []
  rw [run_bind, run_sliceBound (by omega)]
  simp only [pure, Sem.run]
  rw [XL.run_sizeOf h2, h3]
  rfl
/-- the block of an owned row, in rows -/
theorem chunks {s : Nat} : ∀ (k : Nat) (l : List Value), l.length = k * s → ∃ R : List (List Value), R.length = k ∧ (∀ r ∈ R, r.length = s) ∧ R.flatten = l
  | 0, l, h => ⟨[], rfl, by simp, by rw [Nat.zero_mul] at h; rw [List.eq_nil_of_length_eq_zero h]; rfl⟩
  | k + 1, l, h => by
    have h2 : (l.drop s).length = k * s := by rw [List.length_drop, h, Nat.succ_mul]; omega
    obtain ⟨R, r1, r2, r3⟩ := chunks k (l.drop s) h2
    refine ⟨l.take s :: R, by rw [List.length_cons, r1], fun r hr => ?_, by rw [List.flatten_cons, r3, List.take_append_drop]⟩
    rcases List.mem_cons.1 hr with rfl | hr
    · rw [List.length_take, h, Nat.succ_mul]; omega
    · exact r2 r hr
theorem _root_.Go.XL.Ows.whole {base : Nat} {e : TypeId} {s : Nat} {v : Value} {rows : List (List Value)} (h : Ows base w e s v rows) :
    (v = .slice none 0 0 ∧ rows = []) ∨ ∃ g ex, v = .slice (some ⟨g, 0, none⟩) rows.length (rows.length + ex.length) ∧ base ≤ g ∧ Has w g (rows ++ ex).flatten e ∧ (∀ r ∈ ex, r.length = s) ∧ rows.length + ex.length ≤ maxLen := by
  rcases h.own.2 with ⟨rfl, h0⟩ | ⟨g, cap, cur, rfl, hbg, hgh, hnc, hcm, hcs, htake⟩
  · exact .inl ⟨rfl, List.eq_nil_of_length_eq_zero h0⟩
  · obtain ⟨R, r1, r2, r3⟩ := chunks (s := s) (cap - rows.length) (cur.toList.drop (rows.length * s)) (by rw [List.length_drop, Array.length_toList, hcs, Nat.sub_mul])
    have e1 : rows.length + R.length = cap := by omega
    refine .inr ⟨g, R, by rw [e1], hbg, ?_, r2, by omega⟩
    unfold Has
    rw [List.flatten_append, r3, ← htake, List.take_append_drop]
    simpa using hgh
end
end Go.Proofs.Ytjafbffehmombaa
