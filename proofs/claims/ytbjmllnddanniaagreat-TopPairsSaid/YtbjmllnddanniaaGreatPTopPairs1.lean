/-
  What the law TopPairs leans on, part 1.
-/
import Derived.Calls
import Derived.Tactics
import Derived.Orders
import Derived.Deep.Quiet
import Derived.Below
import Derived.KernelRfl
import Derived.LoopN
import Derived.Laws.Bits64
import Derived.Laws.MakeOwn
import Derived.Laws.AppendOwn
import Derived.Laws.Append
import Derived.ArgAppend
import Derived.MapKept
import Derived.RangeFuncRecord
import Derived.RangeFuncIn
import Derived.TacticsIn
import Derived.OrdersIn
import Derived.LoopNIn
import Derived.RangeFuncCalls
import Derived.Test.YtbjmllnddanniaaGreatRows
import Derived.OpenShut
import Derived.ChangeArms
import Derived.Deep.Slices
import Derived.ChangeSame
import Derived.Lib.Overlaps
import Derived.Lib.AppendZerosOnto
import Derived.ChangeKeysEq
import Derived.Shelf.SlSortCmp.NoneTotal
import Derived.Shelf.SlicesG.Cmp
set_option linter.unusedVariables false
set_option linter.unusedSimpArgs false
namespace Go.XL
open Go Go.RowKit
def look : (List (Nat × Value)) → Nat → Option Value
  | [], _ => none
  | (k, v) :: r, n => match Nat.beq k n with | true => some v | false => look r n

structure Cx where
  size : Nat
  round : Option (Option Nat) := none
  marks : List Deferred := []
structure Knows (n : Cx) (F : (List (Nat × Value))) (a : Act) : Prop where
  size : a.tmps.size = n.size
  defers : a.defers = n.marks
  slot : ∀ t v, look F t = some v → a.tmps[t]? = some v

def ev (F : (List (Nat × Value))) : Operand → Option Value
  | .tmp t => look F t
  | .const v => some v
  | .global g => some (.pointer (some ⟨g, 0, none⟩))
  | .func f => some (.func (.func f) #[] #[])

def Agrees (F : (List (Nat × Value))) (ρ : Operand → Value) : Prop := ∀ x v, ev F x = some v → ρ x = v

theorem Knows.agrees {n F a} (h : Knows n F a) : Agrees F a.eval := by
  intro x v hx
  cases x with
  | tmp t => have := h.slot t v hx; simp [Act.eval, this]
  | const u => simp only [ev, Option.some.injEq] at hx; exact hx
  | global g => simp only [ev, Option.some.injEq] at hx; exact hx
  | func f => simp only [ev, Option.some.injEq] at hx; exact hx

theorem look_cons (k v F n) : look ((k, v) :: F) n = if k = n then some v else look F n := by
  simp only [look]
  by_cases h : k = n
  · subst h; simp
  · have : Nat.beq k n = false := by rw [Bool.eq_false_iff]; intro e; exact h (Nat.eq_of_beq_eq_true e)
    simp [this, h]

theorem Knows.put {n F a} (h : Knows n F a) (d : Nat) (v : Value) (hd : Nat.blt d n.size = true) : Knows n ((d, v) :: F) (a.put (some d) v) := by
  have hd' : d < n.size := by simpa [Nat.blt_eq] using hd
  refine ⟨by simp [Act.put, h.size], by simp [Act.put, h.defers], fun t u ht => ?_⟩
  rw [look_cons] at ht
  simp only [Act.put, Array.getElem?_setIfInBounds]
  by_cases e : d = t
  · subst e; simp at ht; subst ht; simp [h.size, hd']
  · simp [e] at ht; simp [e, h.slot t u ht]

theorem Knows.keep {n F G a} (h : Knows n F a) (hs : ∀ t v, look G t = some v → look F t = some v) : Knows n G a :=
  ⟨h.size, h.defers, fun t v ht => h.slot t v (hs t v ht)⟩

def upd (F : (List (Nat × Value))) (d : Option Nat) (v : Value) : (List (Nat × Value)) := match d with | some k => (k, v) :: F | none => F
def inB (d : Option Nat) (n : Cx) : Bool := match d with | some k => Nat.blt k n.size | none => true
theorem Knows.upd {n F a} (h : Knows n F a) (d : Option Nat) (v : Value) (hd : inB d n = true) : Knows n (upd F d v) (a.put d v) := by
  cases d with
  | none => exact h
  | some k => exact h.put k v hd

structure Sub (w w' : World) : Prop where
  os : w'.os = w.os
  tape : w'.tape = w.tape
  output : w'.output = w.output
  size : w.heap.size ≤ w'.heap.size
  block : ∀ k, k < w.heap.size → w'.heap[k]? = w.heap[k]?

theorem Sub.refl (w : World) : Sub w w := ⟨rfl, rfl, rfl, Nat.le_refl _, fun _ _ => rfl⟩
theorem Sub.trans {a b c : World} (h : Sub a b) (k : Sub b c) : Sub a c :=
  ⟨k.os.trans h.os, k.tape.trans h.tape, k.output.trans h.output, Nat.le_trans h.size k.size,
   fun i hi => (k.block i (Nat.lt_of_lt_of_le hi h.size)).trans (h.block i hi)⟩
theorem Sub.below {a b : World} (h : Sub a b) : Below a.heap.size a b := ⟨h.os, h.tape, h.output, h.size, h.block⟩

structure Agr (N : Nat → Prop) (w w' : World) : Prop where
  os : w'.os = w.os
  tape : w'.tape = w.tape
  output : w'.output = w.output
  size : w.heap.size ≤ w'.heap.size
  block : ∀ k, k < w.heap.size → ¬ N k → w'.heap[k]? = w.heap[k]?

theorem Agr.refl (N : Nat → Prop) (w : World) : Agr N w w := ⟨rfl, rfl, rfl, Nat.le_refl _, fun _ _ _ => rfl⟩
theorem Agr.trans {N : Nat → Prop} {a b c : World} (h : Agr N a b) (k : Agr N b c) : Agr N a c :=
  ⟨k.os.trans h.os, k.tape.trans h.tape, k.output.trans h.output, Nat.le_trans h.size k.size,
   fun i hi hn => (k.block i (Nat.lt_of_lt_of_le hi h.size) hn).trans (h.block i hi hn)⟩
theorem Sub.agr {N : Nat → Prop} {w w' : World} (h : Sub w w') : Agr N w w' := ⟨h.os, h.tape, h.output, h.size, fun k hk _ => h.block k hk⟩
theorem Agr.sub {w w' : World} (h : Agr (fun _ => False) w w') : Sub w w' := ⟨h.os, h.tape, h.output, h.size, fun k hk => h.block k hk id⟩
theorem Agr.mono {N N' : Nat → Prop} {w w' : World} (h : Agr N w w') (hn : ∀ k, k < w.heap.size → N k → N' k) : Agr N' w w' :=
  ⟨h.os, h.tape, h.output, h.size, fun k hk hk' => h.block k hk (fun e => hk' (hn k hk e))⟩

def Imm (N : Nat → Prop) (I : World → Prop) (w : World) : Prop := ∀ w', Agr N w w' → I w'

theorem Imm.step {N I w w'} (h : Imm N I w) (k : Agr N w w') : Imm N I w' := fun _ k' => h _ (k.trans k')
theorem Imm.sub {N I w w'} (h : Imm N I w) (k : Sub w w') : Imm N I w' := h.step k.agr
def Has (w : World) (b : Nat) (cs : List Value) (e : TypeId) : Prop := w.heap[b]? = some (.cells cs.toArray e (0, 0))

theorem Has.lt {w b cs e} (h : Has w b cs e) : b < w.heap.size := by
  unfold Has at h
  rcases Nat.lt_or_ge b w.heap.size with g | g
  · exact g
  · rw [Array.getElem?_eq_none g] at h; cases h
theorem Has.step {N : Nat → Prop} {w w' b cs e} (h : Has w b cs e) (k : Agr N w w') (hn : ¬ N b) : Has w' b cs e := (k.block b h.lt hn).trans h
theorem Has.sub {w w' b cs e} (h : Has w b cs e) (k : Sub w w') : Has w' b cs e := (k.block b h.lt).trans h
theorem Has.cell {w b cs e o v} (h : Has w b cs e) (hc : cs[o]? = some v) : w.cell? ⟨b, o, none⟩ = some v := by
  unfold Has at h
  simp [World.cell?, h, hc]
theorem Has.free {w b cs e o s} (h : Has w b cs e) : w.frozen? ⟨b, o, s⟩ = false := by
  unfold Has at h
  simp [World.frozen?, h]

def Row (w : World) (a : Addr) (cs : List Value) : Prop := ∀ i v, cs[i]? = some v → w.cell? (a.add i) = some v

theorem Has.row {w b cs e} (h : Has w b cs e) : Row w ⟨b, 0, none⟩ cs := by
  intro i v hv
  have : (⟨b, 0, none⟩ : Addr).add i = ⟨b, i, none⟩ := by unfold Addr.add; split <;> simp_all
  rw [this]; exact h.cell hv

def wnew (w : World) (o : Obj) : World := { w with heap := w.heap.push o }
theorem wnew_sub (w : World) (o : Obj) : Sub w (wnew w o) :=
  ⟨rfl, rfl, rfl, by simp [wnew], fun k hk => by simp only [wnew]; rw [Array.getElem?_push, if_neg (by omega)]⟩
theorem wnew_has (w : World) (cs : Array Value) (e : TypeId) : Has (wnew w (.cells cs e)) w.heap.size cs.toList e := by
  show (w.heap.push _)[w.heap.size]? = _
  rw [Array.getElem?_push_size]
theorem heap_alloc_old' (w : World) (o : Obj) {r : Nat} (h : r < w.heap.size) : (w.alloc o).heap[r]? = w.heap[r]? := by
  show (w.heap.push o)[r]? = _
  rw [Array.getElem?_push]
  split
  · omega
  · rfl
theorem wnew_size (w : World) (o : Obj) : (wnew w o).heap.size = w.heap.size + 1 := by simp [wnew]


structure Post where
  nrm : Act → World → Prop
  exits : List (Nat × (Act → World → Prop))
  ret : Act → World → Prop

def lookX : List (Nat × (Act → World → Prop)) → Nat → Option (Act → World → Prop)
  | [], _ => none
  | (k, v) :: r, n => match Nat.beq k n with | true => some v | false => lookX r n

def Post.q (p : Post) : Exit → Act → World → Prop
  | .normal => p.nrm
  | .exit i => fun a w => match lookX p.exits i with | some K => K a w | none => False
  | .ret => p.ret
  | _ => fun _ _ => False

def Post.to (p : Post) (K : Act → World → Prop) : Post := { p with nrm := K }
def Post.block (p : Post) (id : Nat) : Post := { p with exits := (id, p.nrm) :: p.exits }

theorem Post.q_to (p : Post) (K : Act → World → Prop) : Exit.then K p.q = (p.to K).q := by
  funext e a w; cases e <;> rfl

theorem lookX_cons (k v F n) : lookX ((k, v) :: F) n = if k = n then some v else lookX F n := by
  simp only [lookX]
  by_cases h : k = n
  · subst h; simp
  · have : Nat.beq k n = false := by rw [Bool.eq_false_iff]; intro e; exact h (Nat.eq_of_beq_eq_true e)
    simp [this, h]

abbrev rfe (l : Option Nat) : Fence := { Fence.wide with round := l }
theorem callsIn_rfe {l : Option Nat} {k : Nat} {P : Program} {f : FuncId} {args : Array Value} {w : World} {R : Ending → World → Prop} (h : Calls P f args w R) : CallsIn (rfe l) k P f args w R := callsIn_wide.2 h
def cwp (n : Cx) (P : Program) (c : Code) (Q : Exit → Act → World → Prop) (a : Act) (w : World) : Prop := match n.round with
  | none => c.wp P Q a w
  | some l => c.wpIn (rfe l) 0 P Q a w
def lwp (n : Cx) (P : Program) (ops : Array Oper) (Q : Exit → Act → World → Prop) (l : List Oper) (a : Act) (w : World) : Prop := match n.round with
  | none => wpList P ops Q l a w
  | some r => wpListIn (rfe r) 0 P ops Q l a w
theorem cwp_none {n : Cx} (h : n.round = none) {P c Q a w} : cwp n P c Q a w = c.wp P Q a w := by unfold cwp; rw [h]
theorem cwp_some {n : Cx} {l : Option Nat} (h : n.round = some l) {P c Q a w} : cwp n P c Q a w = c.wpIn (rfe l) 0 P Q a w := by unfold cwp; rw [h]
theorem lwp_none {n : Cx} (h : n.round = none) {P ops Q l a w} : lwp n P ops Q l a w = wpList P ops Q l a w := by unfold lwp; rw [h]
theorem lwp_some {n : Cx} {r : Option Nat} (h : n.round = some r) {P ops Q l a w} : lwp n P ops Q l a w = wpListIn (rfe r) 0 P ops Q l a w := by unfold lwp; rw [h]
theorem cwp_mono {n : Cx} {P : Program} {c : Code} {Q Q' : Exit → Act → World → Prop} {a : Act} {w : World} (h : cwp n P c Q a w) (hq : ∀ e a w, Q e a w → Q' e a w) : cwp n P c Q' a w := by
  unfold cwp at *
  cases hr : n.round with
  | none => rw [hr] at h; exact wp_mono h hq
  | some l => rw [hr] at h; exact wpIn_mono h hq
def RC (P : Program) (n : Cx) (c : Code) (F : (List (Nat × Value))) (w : World) (p : Post) : Prop := ∀ a, Knows n F a → cwp n P c p.q a w
def RL (P : Program) (n : Cx) (ops : Array Oper) (l : List Oper) (F : (List (Nat × Value))) (w : World) (p : Post) : Prop := ∀ a, Knows n F a → lwp n P ops p.q l a w

section
variable {P : Program} {n : Cx} {F : (List (Nat × Value))} {w : World} {p : Post}
theorem RC.both {c c' : Code} {Q : Exit → Act → World → Prop} {a : Act} (h0 : n.round = none → c.wp P Q a w) (h1 : ∀ l, n.round = some l → c.wpIn (rfe l) 0 P Q a w) : cwp n P c Q a w := by
  cases hr : n.round with
  | none => rw [cwp_none hr]; exact h0 hr
  | some l => rw [cwp_some hr]; exact h1 l hr
theorem RC.skip (h : ∀ a, Knows n F a → p.nrm a w) : RC P n .skip F w p := fun a k => RC.both (c' := .skip) (fun _ => wp_skip (h a k)) (fun _ _ => wpIn_skip (h a k))
theorem RC.ret (h : ∀ a, Knows n F a → p.ret a w) : RC P n .ret F w p := fun a k => RC.both (c' := .skip) (fun _ => wp_ret (h a k)) (fun _ _ => wpIn_ret (h a k))
theorem RC.exit {id K} (hl : lookX p.exits id = some K) (h : ∀ a, Knows n F a → K a w) : RC P n (.exit id) F w p := fun a k => by
  have hq : p.q (.exit id) a w := by simp only [Post.q, hl]; exact h a k
  exact RC.both (c' := .skip) (fun _ => wp_exit hq) (fun _ _ => wpIn_exit hq)
theorem RC.seq {x y} (h : RC P n x F w (p.to fun a w => cwp n P y p.q a w)) : RC P n (.seq x y) F w p := fun a k => by
  have h := h a k
  rw [← Post.q_to] at h
  refine RC.both (c' := .skip) (fun hr => wp_seq ?_) (fun l hr => wpIn_seq ?_)
  · rw [cwp_none hr] at h
    exact wp_mono h fun e a w q => by
      cases e <;> first | exact q | (simp only [Exit.then] at q ⊢; rwa [cwp_none hr] at q)
  · rw [cwp_some hr] at h
    exact wpIn_mono h fun e a w q => by
      cases e <;> first | exact q | (simp only [Exit.then] at q ⊢; rwa [cwp_some hr] at q)
theorem RC.block {id c} (h : RC P n c F w (p.block id)) : RC P n (.block id c) F w p := fun a k => by
  have key : ∀ e a w, (p.block id).q e a w → Exit.inBlock id p.q e a w := by
    intro e a w hq
    cases e with
    | exit i =>
      simp only [Exit.inBlock]
      simp only [Post.q, Post.block, lookX_cons] at hq
      by_cases e : i = id
      · subst e; simpa [Post.q] using hq
      · rw [if_neg e]; rw [if_neg (fun h => e h.symm)] at hq; exact hq
    | _ => exact hq
  have h := h a k
  refine RC.both (c' := .skip) (fun hr => wp_block ?_) (fun l hr => wpIn_block ?_)
  · rw [cwp_none hr] at h; exact wp_mono h key
  · rw [cwp_some hr] at h; exact wpIn_mono h key
theorem RC.cond {c x y b} (hc : ev F c = some (.bool b)) (ht : b = true → RC P n x F w p) (hf : b = false → RC P n y F w p) : RC P n (.cond c x y) F w p :=
  fun a k => RC.both (c' := .skip)
    (fun hr => wp_cond_split (k.agrees _ _ hc) (fun e => by have := ht e a k; rwa [cwp_none hr] at this) (fun e => by have := hf e a k; rwa [cwp_none hr] at this))
    (fun l hr => wpIn_cond_split (k.agrees _ _ hc) (fun e => by have := ht e a k; rwa [cwp_some hr] at this) (fun e => by have := hf e a k; rwa [cwp_some hr] at this))
theorem RC.cond_dec {c x y} {q : Prop} [Decidable q] (hc : ev F c = some (.bool (decide q))) (ht : q → RC P n x F w p) (hf : ¬ q → RC P n y F w p) : RC P n (.cond c x y) F w p :=
  RC.cond hc (fun e => ht (of_decide_eq_true e)) (fun e => hf (of_decide_eq_false e))
theorem RC.region {id ops l} (hl : ops = List.toArray l) (h : RL P n ops l F w p) : RC P n (.region id ops false) F w p :=
  fun a k => by
    subst hl
    have h := h a k
    refine RC.both (c' := .skip) (fun hr => wp_region_list ?_) (fun r hr => wpIn_region_list ?_)
    · rw [lwp_none hr] at h; simpa using h
    · rw [lwp_some hr] at h; simpa using h
theorem RL.nil {ops} (h : ∀ a, Knows n F a → p.nrm a w) : RL P n ops [] F w p := fun a k => by
  cases hr : n.round with
  | none => rw [lwp_none hr]; exact wpList_nil (h a k)
  | some r => rw [lwp_some hr]; exact wpListIn_nil (h a k)
theorem RC.back {y} {q : Post} (h : RC P n y F w q) : ∀ a, Knows n F a → (fun a w => cwp n P y q.q a w) a w := h

theorem RC.loop {α : Type} {c} (G : α → (List (Nat × Value))) (J : α → World → Prop) (μ : α → Nat) (x : α) (hF : ∀ t v, look (G x) t = some v → look F t = some v) (hJ : J x w)
    (round : ∀ x w, J x w → RC P n c (G x) w (p.to fun a' w' => ∃ x', J x' w' ∧ μ x' < μ x ∧ Knows n (G x') a')) (hR : n.round = none := by rfl) : RC P n (.loop c) F w p := by
  intro a k
  rw [cwp_none hR]
  intro b kk cs
  have key : ∀ m x w a, μ x = m → J x w → Knows n (G x) a →
      ∃ e a' w', p.q e a' w' ∧ Arrives P (lone (b.at a (.code c :: .inLoop c :: kk)) cs w) b kk cs e a' w' := by
    intro m
    induction m using Nat.strongRecOn with
    | _ m ih =>
      intro x w a hm hJ hk
      have hround := round x w hJ a hk
      rw [cwp_none hR] at hround
      obtain ⟨e, a₁, w₁, hq, harr⟩ := hround b (.inLoop c :: kk) cs
      cases e with
      | normal =>
        obtain ⟨x', hJ', hlt, hk'⟩ := hq
        obtain ⟨e₂, a₂, w₂, hq₂, harr₂⟩ := ih (μ x') (hm ▸ hlt) x' w₁ a₁ rfl hJ' hk'
        exact ⟨e₂, a₂, w₂, hq₂, .of_steps (Steps.trans harr (.one step_inLoop)) harr₂⟩
      | exit id => exact ⟨.exit id, a₁, w₁, hq, .pass (x := .inLoop c) rfl (fun _ _ => .inl (by simp)) harr⟩
      | goto l => exact ⟨.goto l, a₁, w₁, hq, .pass (x := .inLoop c) rfl (fun _ _ => .inl (by simp)) harr⟩
      | ret => exact ⟨.ret, a₁, w₁, hq, .pass (x := .inLoop c) rfl (fun _ _ => .inl (by simp)) harr⟩
      | panic ch => exact ⟨.panic ch, a₁, w₁, hq, .pass (x := .inLoop c) rfl (fun _ _ => .inl (by simp)) harr⟩
      | outgrown => exact ⟨.outgrown, a₁, w₁, hq, .pass (x := .inLoop c) rfl (fun _ _ => .inl (by simp)) harr⟩
  obtain ⟨e, a', w', hq, harr⟩ := key _ x w a rfl hJ (k.keep hF)
  exact ⟨e, a', w', hq, .of_steps (.one step_loop) harr⟩
end
def gsat (ops : Array Oper) (F : (List (Nat × Value))) : Option (Nat × Bool) → Option Bool
  | none => some true
  | some (j, want) => match (ops[j]?).bind (·.dst) with
    | none => some false
    | some d => match look F d with
      | some (.bool b) => some (b == want)
      | some _ => some false
      | none => none

theorem wanted_of {ops F n a} (k : Knows n F a) {o : Oper} {b} (h : gsat ops F o.guard = some b) : Region.wanted o (yielded ops a.tmps) = b := by
  unfold Region.wanted
  cases hg : o.guard with
  | none => rw [hg] at h; simpa [gsat] using h
  | some jw =>
    obtain ⟨j, want⟩ := jw
    rw [hg] at h
    simp only [gsat] at h
    cases hd : (ops[j]?).bind (·.dst) with
    | none => simp only [hd] at h; cases h; simp [yielded, hd]
    | some d =>
      simp only [hd] at h
      cases hl : look F d with
      | none => simp [hl] at h
      | some v =>
        have hs := k.slot d v hl
        cases v <;> simp_all [yielded]

def EvOp (P : Program) (F : (List (Nat × Value))) (o : Op) (w : World) (v : Value) : Prop :=
  ∀ (d : Option Tmp) (t : TypeId) (pos : String) (af : Array Edge) (g : Option (Nat × Bool)) (ρ : Operand → Value), Agrees F ρ → ∀ w', Sub w w' → (execOp ρ ⟨d, o, t, pos, af, g⟩).run P w' = .ok (.value v) w'

section
variable {P : Program} {n : Cx} {F : (List (Nat × Value))} {w : World} {p : Post} {ops : Array Oper} {rest : List Oper} {d : Option Tmp} {o : Op} {t : TypeId} {pos : String} {af : Array Edge} {g : Option (Nat × Bool)}
theorem not_defer {ρ : Operand → Value} {o : Oper} {x : Next} {w' : World} (h : (execOp ρ o).run P w = .ok x w') (hx : ∀ d, x ≠ .defer d) : ∀ c, o.op ≠ .defer c := by
  intro c e
  unfold execOp at h
  rw [e] at h
  simp only [] at h
  rw [Sem.run_bind] at h
  cases hr : (resolve ρ c o.type).run P w with
  | ok d w'' => rw [hr] at h; simp only [Result.andThen, pure, Sem.run] at h; cases h; exact hx _ rfl
  | halt y w'' => rw [hr] at h; cases h
theorem RL.off (hg : gsat ops F g = some false) (hd : inB d n = true) (h : RL P n ops rest (upd F d undef) w p) : RL P n ops (⟨d, o, t, pos, af, g⟩ :: rest) F w p := by
  intro a k
  have h := h _ (k.upd d undef hd)
  cases hr : n.round with
  | none =>
    rw [lwp_none hr] at h ⊢
    simp only [wpList]
    rw [wanted_of k hg]
    exact h
  | some r =>
    rw [lwp_some hr] at h ⊢
    simp only [wpListIn]
    rw [wanted_of k hg]
    exact ⟨fun _ _ => trivial, h⟩

theorem RL.on {v w'} (hg : gsat ops F g = some true) (hd : inB d n = true) (hr : ∀ ρ, Agrees F ρ → (execOp ρ ⟨d, o, t, pos, af, g⟩).run P w = .ok (.value v) w') (h : RL P n ops rest (upd F d v) w' p) : RL P n ops (⟨d, o, t, pos, af, g⟩ :: rest) F w p := by
  intro a k
  have h := h _ (k.upd d v hd)
  have he := hr _ k.agrees
  cases hq : n.round with
  | none =>
    rw [lwp_none hq] at h ⊢
    simp only [wpList]
    rw [wanted_of k hg]
    refine .inl ?_
    simp only [Oper.wp, he, Oper.upon]
    exact h
  | some r =>
    rw [lwp_some hq] at h ⊢
    simp only [wpListIn]
    rw [wanted_of k hg, if_pos rfl]
    refine ⟨fun _ _ => trivial, ?_⟩
    rw [Oper.semAt_eq _ _ _ (not_defer he (fun _ e => by cases e)), he]
    exact h

theorem RL.on_skip {w'} (hg : gsat ops F g = some true) (hr : ∀ ρ, Agrees F ρ → (execOp ρ ⟨none, o, t, pos, af, g⟩).run P w = .ok .skip w') (h : RL P n ops rest F w' p) : RL P n ops (⟨none, o, t, pos, af, g⟩ :: rest) F w p := by
  intro a k
  have h := h _ k
  have he := hr _ k.agrees
  cases hq : n.round with
  | none =>
    rw [lwp_none hq] at h ⊢
    simp only [wpList]
    rw [wanted_of k hg]
    refine .inl ?_
    simp only [Oper.wp, he, Oper.upon]
    exact h
  | some r =>
    rw [lwp_some hq] at h ⊢
    simp only [wpListIn]
    rw [wanted_of k hg, if_pos rfl]
    refine ⟨fun _ _ => trivial, ?_⟩
    rw [Oper.semAt_eq _ _ _ (not_defer he (fun _ e => by cases e)), he]
    exact h

theorem RL.ev {v} (he : EvOp P F o w v) (hg : gsat ops F g = some true) (hd : inB d n = true) (h : RL P n ops rest (upd F d v) w p) : RL P n ops (⟨d, o, t, pos, af, g⟩ :: rest) F w p :=
  RL.on hg hd (fun ρ hρ => he d t pos af g ρ hρ w (Sub.refl _)) h

theorem RL.split {q : Prop} [Decidable q] {l} (s : Nat) (hs : look F s = some (.bool (decide q))) (hy : q → RL P n ops l ((s, .bool true) :: F) w p) (hn : ¬ q → RL P n ops l ((s, .bool false) :: F) w p) : RL P n ops l F w p := by
  intro a k
  by_cases hq : q
  · refine hy hq a ⟨k.size, k.defers, fun t v ht => ?_⟩
    rw [look_cons] at ht
    by_cases e : s = t
    · subst e; simp at ht; subst ht; simpa [hq] using k.slot _ _ hs
    · rw [if_neg e] at ht; exact k.slot _ _ ht
  · refine hn hq a ⟨k.size, k.defers, fun t v ht => ?_⟩
    rw [look_cons] at ht
    by_cases e : s = t
    · subst e; simp at ht; subst ht; simpa [hq] using k.slot _ _ hs
    · rw [if_neg e] at ht; exact k.slot _ _ ht
theorem RL.splitB {b : Bool} {l} (s : Nat) (hs : look F s = some (.bool b)) (hy : b = true → RL P n ops l ((s, .bool true) :: F) w p) (hn : b = false → RL P n ops l ((s, .bool false) :: F) w p) : RL P n ops l F w p :=
  RL.split (q := b = true) s (by rw [hs]; simp) hy (fun h => hn (by simpa using h))

theorem EvOp.move {x v} (hx : XL.ev F x = some v) : EvOp P F (.move x) w v := fun _ _ _ _ _ ρ hρ w' _ => by
  simp only [execOp, hρ x v hx]; rfl
theorem EvOp.assign {x v} (hx : XL.ev F x = some v) : EvOp P F (.assign x) w v := fun _ _ _ _ _ ρ hρ w' _ => by
  simp only [execOp, hρ x v hx]; rfl
theorem EvOp.pick_t {c x y v} (hc : XL.ev F c = some (.bool true)) (hx : XL.ev F x = some v) : EvOp P F (.pick c x y) w v := fun _ _ _ _ _ ρ hρ w' _ => by
  simp only [execOp, hρ c _ hc, hρ x v hx, asBool]; rfl
theorem EvOp.pick_f {c x y v} (hc : XL.ev F c = some (.bool false)) (hy : XL.ev F y = some v) : EvOp P F (.pick c x y) w v := fun _ _ _ _ _ ρ hρ w' _ => by
  simp only [execOp, hρ c _ hc, hρ y v hy, asBool]; rfl

def binI (op : BinOp) (k : IntKind) (a b : Int) : Option Value :=
  match op with
  | .add => some (.int k (k.wrap (a + b)))
  | .sub => some (.int k (k.wrap (a - b)))
  | .mul => some (.int k (k.wrap (a * b)))
  | .eql => some (.bool (decide (a = b)))
  | .neq => some (.bool (decide (¬ a = b)))
  | .lss => some (.bool (decide (a < b)))
  | .leq => some (.bool (decide (a ≤ b)))
  | .gtr => some (.bool (decide (b < a)))
  | .geq => some (.bool (decide (b ≤ a)))
  | .and => some (.int k (k.wrap (BitVec.ofInt k.bits a &&& BitVec.ofInt k.bits b).toNat))
  | .or => some (.int k (k.wrap (BitVec.ofInt k.bits a ||| BitVec.ofInt k.bits b).toNat))
  | .xor => some (.int k (k.wrap (BitVec.ofInt k.bits a ^^^ BitVec.ofInt k.bits b).toNat))
  | _ => none

theorem EvOp.bin {op k x y a b v ty tx} (hx : XL.ev F x = some (.int k a)) (hy : XL.ev F y = some (.int k b)) (hv : binI op k a b = some v) : EvOp P F (.binOp op tx x y ty) w v := fun _ _ _ _ _ ρ hρ w' _ => by
  simp only [execOp, hρ x _ hx, hρ y _ hy]
  cases op <;> simp only [binI, Option.some.injEq, reduceCtorEq] at hv <;> subst hv <;> simp [eqGuard, binOp, Op.intArith, Op.intBits, Op.intCmp, bind, Sem.bind, pure, bne] <;> (rw [Bool.eq_iff_iff]; simp)
end
def isAggD : TypeDesc → Bool | .struct _ => true | .array _ _ => true | _ => false
def shapeOf (P : Program) (t : TypeId) : Option (Bool × Nat) :=
  match P.underlying t, P.info? t with | some d, some i => some (isAggD d, i.size) | _, _ => none
def zeroOf (P : Program) (t : TypeId) : Option Value := (P.info? t).bind (·.zero)
def fieldOff (P : Program) (s : TypeId) (f : Nat) : Option Nat :=
  match P.underlying s with
  | some (.struct fs) => match fs[f]? with
    | some fd => (match P.info? fd.type with | some i => (match i.size with | 0 => none | _ + 1 => some fd.offset) | none => none)
    | none => none
  | _ => none
def sliceOf (P : Program) (t : TypeId) : Option (TypeId × Nat × Nat) :=
  match P.underlying t with
  | some (.slice e) => match P.info? e with | some i => some (e, i.size, i.bytes) | none => none
  | _ => none
def arrOf (P : Program) (t : TypeId) : Option (Nat × TypeId × Nat) :=
  match P.underlying t with
  | some (.array n e) => match P.info? e with | some i => some (n, e, i.size) | none => none
  | _ => none
def intOf? (P : Program) (t : TypeId) : Option IntKind := match P.underlying t with | some (.int k) => some k | _ => none
def calleeOK (P : Program) (f : FuncId) : Bool := match P.funcs[f]? with | some fn => fn.name != "runtime.NumGoroutine" && fn.body.isSome | none => false

section
variable {P : Program}
theorem shapeOf_spec {t b s} (h : shapeOf P t = some (b, s)) : ∃ d i, P.underlying t = some d ∧ P.info? t = some i ∧ isAggD d = b ∧ i.size = s := by
  unfold shapeOf at h
  split at h
  · rename_i d i hd hi; simp at h; exact ⟨d, i, hd, hi, h.1, h.2⟩
  · cases h
theorem sliceOf_spec {t e s b} (h : sliceOf P t = some (e, s, b)) : P.underlying t = some (.slice e) ∧ ∃ i, P.info? e = some i ∧ i.size = s ∧ i.bytes = b := by
  unfold sliceOf at h
  split at h
  · rename_i e' hd
    split at h
    · rename_i i hi; simp at h; obtain ⟨rfl, rfl, rfl⟩ := h; exact ⟨hd, i, hi, rfl, rfl⟩
    · cases h
  · cases h
theorem arrOf_spec {t n e s} (h : arrOf P t = some (n, e, s)) : P.underlying t = some (.array n e) ∧ ∃ i, P.info? e = some i ∧ i.size = s := by
  unfold arrOf at h
  split at h
  · rename_i m e' hd
    split at h
    · rename_i i hi; simp at h; obtain ⟨rfl, rfl, rfl⟩ := h; exact ⟨hd, i, hi, rfl⟩
    · cases h
  · cases h
theorem intOf?_spec {t k} (h : intOf? P t = some k) : P.underlying t = some (.int k) := by
  unfold intOf? at h
  split at h
  · rename_i k' hd; simp at h; subst h; exact hd
  · cases h
theorem fieldOff_spec {s f o} (h : fieldOff P s f = some o) : ∃ fs fd i, P.underlying s = some (.struct fs) ∧ fs[f]? = some fd ∧ fd.offset = o ∧ P.info? fd.type = some i ∧ i.size ≠ 0 := by
  unfold fieldOff at h
  split at h
  · rename_i fs hs
    split at h
    · rename_i fd hf
      split at h
      · rename_i i hi
        split at h
        · cases h
        · rename_i m hz; simp at h; exact ⟨fs, fd, i, hs, hf, h, hi, by omega⟩
      · cases h
    · cases h
  · cases h
theorem zeroOf_spec {t z} (h : zeroOf P t = some z) : ∃ i, P.info? t = some i ∧ i.zero = some z := by
  unfold zeroOf at h
  cases hi : P.info? t with
  | none => simp [hi] at h
  | some i => exact ⟨i, rfl, by simpa [hi] using h⟩

theorem run_underlying {t d w} {α : Type} (h : P.underlying t = some d) (k : TypeDesc → Sem α) : (underlying t >>= k).run P w = (k d).run P w := by
  simp [underlying, program, bind, Sem.bind, Sem.run, h, pure]
theorem run_sizeOf {t i w} {α : Type} (h : P.info? t = some i) (k : Nat → Sem α) : (sizeOf t >>= k).run P w = (k i.size).run P w := by
  simp [sizeOf, typeInfo, program, bind, Sem.bind, Sem.run, h, pure]
theorem run_isAgg {t d w} {α : Type} (h : P.underlying t = some d) (k : Bool → Sem α) : (isAgg t >>= k).run P w = (k (isAggD d)).run P w := by
  simp only [isAgg, underlying, program, bind, Sem.bind, Sem.run, pure]
  rw [h]
  cases d <;> simp [isAggD, Sem.bind]
theorem run_zeroValue {t z w} {α : Type} (h : zeroOf P t = some z) (k : Value → Sem α) : (zeroValue t >>= k).run P w = (k z).run P w := by
  obtain ⟨i, hi, hz⟩ := zeroOf_spec h
  simp [zeroValue, typeInfo, program, bind, Sem.bind, Sem.run, hi, hz, pure]
theorem run_bind {α β : Type} (s : Sem α) (k : α → Sem β) (w : World) : (s >>= k).run P w = (match s.run P w with | .ok a w' => (k a).run P w' | .halt h w' => .halt h w') := by
  show (Sem.bind s k).run P w = _
  induction s generalizing w with
  | pure a => rfl
  | halt h => rfl
  | store m a v k' ih =>
    simp only [Sem.bind]
    cases v <;> simp only [Sem.run] <;> (repeat' split) <;> simp_all
  | load m a k' ih => simp only [Sem.bind, Sem.run]; (repeat' split) <;> simp_all
  | new o k' ih => simp only [Sem.bind, Sem.run]; exact ih _ _
  | shape r k' ih => simp only [Sem.bind, Sem.run]; exact ih _ _
  | freeze a n k' ih => simp only [Sem.bind, Sem.run]; exact ih _
  | frozen a k' ih => simp only [Sem.bind, Sem.run]; exact ih _ _
  | getObj r k' ih => simp only [Sem.bind, Sem.run]; (repeat' split) <;> simp_all
  | setObj r o k' ih => simp only [Sem.bind, Sem.run]; (repeat' split) <;> simp_all
  | choose q k' ih => simp only [Sem.bind, Sem.run]; split <;> exact ih _ _
  | sys c k' ih => simp only [Sem.bind, Sem.run]; exact ih _ _
  | program k' ih => simp only [Sem.bind, Sem.run]; exact ih _ _
  | mark m k' ih => simp only [Sem.bind, Sem.run]; exact ih _
end
def plainV : Value → Bool | .agg _ => false | .tuple _ => false | _ => true

theorem add_lit (b o i : Nat) : (⟨b, o, none⟩ : Addr).add i = ⟨b, o + i, none⟩ := by
  unfold Addr.add; split <;> simp_all

theorem Row.sub {w w' a cs} (h : Row w a cs) (k : Sub w w') : Row w' a cs := by
  intro i v hv
  have hc := h i v hv
  have hlt : (a.add i).block < w.heap.size := by
    rcases Nat.lt_or_ge (a.add i).block w.heap.size with g | g
    · exact g
    · simp [World.cell?, Array.getElem?_eq_none g] at hc
  have := k.block _ hlt
  simpa [World.cell?, this] using hc

theorem cell_sub {w w' : World} {a : Addr} {v} (hc : w.cell? a = some v) (k : Sub w w') : w'.cell? a = some v := by
  have hlt : a.block < w.heap.size := by
    rcases Nat.lt_or_ge a.block w.heap.size with g | g
    · exact g
    · simp [World.cell?, Array.getElem?_eq_none g] at hc
  have := k.block _ hlt
  simpa [World.cell?, this] using hc

section
variable {P : Program}
theorem run_loadCellsFrom {w : World} {a : Addr} (cs : List Value) : ∀ (i : Nat) (acc : Array Value), (∀ j v, cs[j]? = some v → w.cell? (a.add (i + j)) = some v) →
    (loadCellsFrom a i cs.length acc).run P w = .ok (acc ++ cs.toArray) w := by
  induction cs with
  | nil => intro i acc _; simp [loadCellsFrom, pure]
  | cons v cs ih =>
    intro i acc h
    have h0 := h 0 v rfl
    simp only [List.length_cons, loadCellsFrom, load, bind, Sem.bind, Sem.run]
    rw [Nat.add_zero] at h0
    rw [h0]
    simp only
    rw [ih (i + 1) _ (fun j u hu => by have := h (j + 1) u (by simpa using hu); rwa [show i + 1 + j = i + (j + 1) by omega])]
    simp

theorem run_loadCells {w : World} {a : Addr} {cs : List Value} (h : Row w a cs) : (loadCells a cs.length).run P w = .ok cs.toArray w := by
  rw [loadCells, run_loadCellsFrom cs 0 #[] (fun j v hv => by rw [Nat.zero_add]; exact h j v hv)]
  simp

def splice : List Value → Nat → List Value → List Value
  | cs, _, [] => cs
  | cs, o, v :: vs => splice (cs.set o v) (o + 1) vs

theorem splice_length (vs : List Value) : ∀ cs o, (splice cs o vs).length = cs.length := by
  induction vs with
  | nil => intro cs o; rfl
  | cons v vs ih => intro cs o; simp [splice, ih]

theorem splice_get (vs : List Value) : ∀ cs o k, (splice cs o vs)[k]? = if k < cs.length then (if o ≤ k ∧ k < o + vs.length then vs[k - o]? else cs[k]?) else none := by
  induction vs with
  | nil =>
    intro cs o k
    simp only [splice, List.length_nil]
    split
    · rw [if_neg (by omega)]
    · rename_i h; rw [List.getElem?_eq_none (by omega)]
  | cons v vs ih =>
    intro cs o k
    simp only [splice, ih, List.length_set, List.length_cons]
    split
    · rename_i h
      by_cases h1 : o + 1 ≤ k ∧ k < o + 1 + vs.length
      · rw [if_pos h1, if_pos (by omega), show k - o = (k - (o + 1)) + 1 by omega]; simp
      · rw [if_neg h1]
        by_cases h2 : k = o
        · subst h2; rw [if_pos (by omega)]; simp [h]
        · rw [if_neg (by omega), List.getElem?_set_ne (by omega)]
    · rfl

theorem setCell_has {w b cs e o} (v : Value) (h : Has w b cs e) : Has (w.setCell ⟨b, o, none⟩ v) b (cs.set o v) e := by
  unfold Has at *
  simp [World.setCell, Array.getElem?_modify, h]

theorem setCell_agr {w : World} {b o} (v : Value) : Agr (· = b) w (w.setCell ⟨b, o, none⟩ v) :=
  ⟨rfl, rfl, rfl, by simp [World.setCell], fun k _ hn => by simp only [World.setCell, Array.getElem?_modify]; rw [if_neg (fun e => hn e.symm)]⟩
theorem setCell_size {w : World} {a : Addr} (v : Value) : (w.setCell a v).heap.size = w.heap.size := by simp [World.setCell]

theorem run_storeCells {b o e} (vs : List Value) : ∀ (i : Nat) (cs : List Value) (w : World), Has w b cs e → o + i + vs.length ≤ cs.length → vs.all plainV = true →
    ∃ w', (storeCells ⟨b, o, none⟩ vs i).run P w = .ok () w' ∧ Has w' b (splice cs (o + i) vs) e ∧ Agr (· = b) w w' ∧ w'.heap.size = w.heap.size := by
  induction vs with
  | nil => intro i cs w h _ _; exact ⟨w, rfl, h, Agr.refl _ _, rfl⟩
  | cons v vs ih =>
    intro i cs w h hl hp
    simp only [List.length_cons] at hl
    simp only [List.all_cons, Bool.and_eq_true] at hp
    have hlt : o + i < cs.length := by omega
    have hc : w.cell? ⟨b, o + i, none⟩ = some (cs[o + i]) := h.cell (by simp [hlt])
    have hf : w.frozen? ⟨b, o + i, none⟩ = false := h.free
    obtain ⟨w', hr, hh, ha, hs⟩ := ih (i + 1) (cs.set (o + i) v) _ (setCell_has (o := o + i) v h) (by simp; omega) hp.2
    refine ⟨w', ?_, ?_, (setCell_agr v).trans ha, by rw [hs, setCell_size]⟩
    · have hpv := hp.1
      simp only [storeCells, store, bind, Sem.bind]
      rw [add_lit]
      cases v <;> simp only [plainV, Bool.false_eq_true] at hpv <;> simp only [Sem.run, hc, hf, Bool.false_eq_true, if_false] <;> exact hr
    · simpa [splice, Nat.add_assoc] using hh

theorem run_loadVar_agg {w : World} {a : Addr} {t : TypeId} {cs : List Value} (hs : shapeOf P t = some (true, cs.length)) (h : Row w a cs) : (loadVar t a).run P w = .ok (.agg cs.toArray) w := by
  obtain ⟨d, i, hd, hi, hb, hz⟩ := shapeOf_spec hs
  rw [loadVar, run_isAgg hd, hb]
  simp only [if_true]
  rw [run_sizeOf hi, hz, run_bind, run_loadCells h]
  rfl
theorem run_loadVar_one {w : World} {a : Addr} {t : TypeId} {s v} (hs : shapeOf P t = some (false, s)) (h : w.cell? a = some v) : (loadVar t a).run P w = .ok v w := by
  obtain ⟨d, i, hd, hi, hb, hz⟩ := shapeOf_spec hs
  rw [loadVar, run_isAgg hd, hb]
  simp [load, Sem.run, h]
theorem run_storeVar {w : World} {t : TypeId} {v : Value} {b o e cs} {x s} (hs : shapeOf P t = some (x, s)) (hz : v.cells.size = s) (h : Has w b cs e) (hl : o + v.cells.toList.length ≤ cs.length) (hp : v.cells.toList.all plainV = true) :
    ∃ w', (storeVar t ⟨b, o, none⟩ v).run P w = .ok () w' ∧ Has w' b (splice cs o v.cells.toList) e ∧ Agr (· = b) w w' ∧ w'.heap.size = w.heap.size := by
  obtain ⟨d, i, hd, hi, hb, hz'⟩ := shapeOf_spec hs
  obtain ⟨w', hr, hh⟩ := run_storeCells (P := P) (o := o) v.cells.toList 0 cs w h (by omega) hp
  refine ⟨w', ?_, by simpa using hh⟩
  rw [storeVar, run_sizeOf hi, if_neg (by rw [hz, hz']; simp)]
  exact hr

theorem run_equalIn_bool {w : World} {t : TypeId} {a b : Bool} (d : Nat) (ht : P.underlying t = some .bool) : (Op.equalIn (d + 1) t (.bool a) (.bool b)).run P w = .ok (a == b) w := by
  rw [Op.equalIn, run_underlying ht]
  rfl
theorem run_equal_bool {w : World} {t : TypeId} {a b : Bool} (ht : P.underlying t = some .bool) : (Op.equal t (.bool a) (.bool b)).run P w = .ok (a == b) w := run_equalIn_bool 9999 ht
theorem run_newRow {w : World} {e : TypeId} {cs : Array Value} : (newRow e cs).run P w = .ok ⟨w.heap.size, 0, none⟩ (wnew w (.cells cs e)) := by
  simp [newRow, newObj, bind, Sem.bind, Sem.run, wnew, pure]
end
section
variable {P : Program} {n : Cx} {F : (List (Nat × Value))} {w : World} {p : Post} {ops : Array Oper} {rest : List Oper} {d : Option Tmp} {o : Op} {t : TypeId} {pos : String} {af : Array Edge} {g : Option (Nat × Bool)}
theorem EvOp.not {x b ty} (hx : XL.ev F x = some (.bool b)) : EvOp P F (.unOp .not ty x) w (.bool !b) := fun _ _ _ _ _ ρ hρ w' _ => by
  simp only [execOp, hρ x _ hx]; rfl
theorem EvOp.not_dec {x ty} {q : Prop} [Decidable q] (hx : XL.ev F x = some (.bool (decide q))) : EvOp P F (.unOp .not ty x) w (.bool (decide ¬ q)) := by
  have := EvOp.not (P := P) (w := w) (ty := ty) hx
  rwa [← decide_not] at this
theorem EvOp.rem {k x y a b ty tx} (hx : XL.ev F x = some (.int k a)) (hy : XL.ev F y = some (.int k b)) (hb : b ≠ 0) : EvOp P F (.binOp .rem tx x y ty) w (.int k (a.tmod b)) := fun _ _ _ _ _ ρ hρ w' _ => by
  simp only [execOp, hρ x _ hx, hρ y _ hy]
  simp [eqGuard, binOp, Op.intDiv, bind, Sem.bind, pure, hb]
theorem EvOp.quo {k x y a b ty tx} (hx : XL.ev F x = some (.int k a)) (hy : XL.ev F y = some (.int k b)) (hb : b ≠ 0) : EvOp P F (.binOp .quo tx x y ty) w (.int k (k.wrap (a.tdiv b))) := fun _ _ _ _ _ ρ hρ w' _ => by
  simp only [execOp, hρ x _ hx, hρ y _ hy]
  simp [eqGuard, binOp, Op.intDiv, bind, Sem.bind, pure, hb]
theorem EvOp.shr {k k' x y a b ty tx} (hx : XL.ev F x = some (.int k a)) (hy : XL.ev F y = some (.int k' b)) (hb : 0 ≤ b) : EvOp P F (.binOp .shr tx x y ty) w (.int k (a.fdiv (2 ^ min b.toNat k.bits))) := fun _ _ _ _ _ ρ hρ w' _ => by
  simp only [execOp, hρ x _ hx, hρ y _ hy]
  simp [eqGuard, binOp, Op.shift, bind, Sem.bind, pure, show ¬ b < 0 by omega]
theorem EvOp.shl {k k' x y a b ty tx} (hx : XL.ev F x = some (.int k a)) (hy : XL.ev F y = some (.int k' b)) (hb : 0 ≤ b) : EvOp P F (.binOp .shl tx x y ty) w (.int k (k.wrap (a * 2 ^ min b.toNat k.bits))) := fun _ _ _ _ _ ρ hρ w' _ => by
  simp only [execOp, hρ x _ hx, hρ y _ hy]
  simp [eqGuard, binOp, Op.shift, bind, Sem.bind, pure, show ¬ b < 0 by omega]
theorem EvOp.neB {x y a b tx ty} (ht : P.underlying tx = some .bool) (hx : XL.ev F x = some (.bool a)) (hy : XL.ev F y = some (.bool b)) : EvOp P F (.binOp .neq tx x y ty) w (.bool (!(a == b))) := fun _ _ _ _ _ ρ hρ w' _ => by
  simp only [execOp, hρ x _ hx, hρ y _ hy, run_bind]
  have h1 : (binOp .neq tx (.bool a) (.bool b)).run P w' = .ok (.bool (!(a == b))) w' := by
    show (Op.equal tx (.bool a) (.bool b) >>= fun b => (Sem.pure (Value.bool !b) : Sem Value)).run P w' = _
    rw [run_bind, run_equal_bool ht]
    rfl
  have h2 : (eqGuard .neq tx x y (.bool a) (.bool b)).run P w' = .ok () w' := rfl
  simp only [h2, h1]
  rfl
theorem EvOp.conv {src dst x k k' a} (hs : intOf? P src = some k') (ht : intOf? P dst = some k) (hx : XL.ev F x = some (.int k' a)) : EvOp P F (.convert src dst x) w (.int k (k.wrap a)) := fun _ _ _ _ _ ρ hρ w' _ => by
  have h1 := intOf?_spec hs
  have h2 := intOf?_spec ht
  simp only [execOp, hρ x _ hx, convert]
  rw [run_bind, run_underlying h1, run_underlying h2]
  rfl
theorem EvOp.len {x a m c ty e s b} (ht : sliceOf P ty = some (e, s, b)) (hx : XL.ev F x = some (.slice a m c)) : EvOp P F (.call ⟨.builtin .len, #[x], #[ty]⟩) w (.int .i64 m) := fun _ _ _ _ _ ρ hρ w' _ => by
  have h1 := (sliceOf_spec ht).1
  simp only [execOp, resolve, hρ x _ hx, bind, Sem.bind, pure, invoke, builtin, List.map_toArray, List.map_cons, List.map_nil]
  simp [Builtin.len_, underlying, program, h1, bind, Sem.bind, Sem.run, pure, goInt]
theorem EvOp.cap {x a m c ty e s b} (ht : sliceOf P ty = some (e, s, b)) (hx : XL.ev F x = some (.slice a m c)) : EvOp P F (.call ⟨.builtin .cap, #[x], #[ty]⟩) w (.int .i64 c) := fun _ _ _ _ _ ρ hρ w' _ => by
  have h1 := (sliceOf_spec ht).1
  simp only [execOp, resolve, hρ x _ hx, bind, Sem.bind, pure, invoke, builtin, List.map_toArray, List.map_cons, List.map_nil]
  simp [Builtin.cap_, underlying, program, h1, bind, Sem.bind, Sem.run, pure, goInt]
end
def evs (F : (List (Nat × Value))) : List Operand → Option (List Value)
  | [] => some []
  | x :: xs => match ev F x, evs F xs with | some v, some vs => some (v :: vs) | _, _ => none

theorem evs_spec {F : (List (Nat × Value))} {ρ : Operand → Value} (hρ : Agrees F ρ) : ∀ (xs : List Operand) (vs : List Value), evs F xs = some vs → xs.map ρ = vs
  | [], vs, h => by simp [evs] at h; subst h; rfl
  | x :: xs, vs, h => by
    simp only [evs] at h
    split at h
    · rename_i v us hv hus
      simp at h; subst h
      simp [hρ x v hv, evs_spec hρ xs us hus]
    · cases h
theorem evs_arr {F : (List (Nat × Value))} {ρ : Operand → Value} (hρ : Agrees F ρ) {xs : List Operand} {vs : List Value} (h : evs F xs = some vs) : xs.toArray.map ρ = vs.toArray := by
  rw [List.map_toArray, evs_spec hρ xs vs h]

def evp (F : (List (Nat × Value))) : List (Nat × Operand) → Option (List (Nat × Value))
  | [] => some []
  | (i, x) :: xs => match ev F x, evp F xs with | some v, some vs => some ((i, v) :: vs) | _, _ => none
theorem evp_spec {F : (List (Nat × Value))} {ρ : Operand → Value} (hρ : Agrees F ρ) : ∀ (xs : List (Nat × Operand)) (vs : List (Nat × Value)), evp F xs = some vs → xs.map (fun (i, x) => (i, ρ x)) = vs
  | [], vs, h => by simp [evp] at h; subst h; rfl
  | (i, x) :: xs, vs, h => by
    simp only [evp] at h
    split at h
    · rename_i v us hv hus
      simp at h; subst h
      simp [hρ x v hv, evp_spec hρ xs us hus]
    · cases h

def placesOf (P : Program) (t : TypeId) : Option (List (Nat × Nat)) :=
  match P.underlying t with
  | some (.struct fs) => fs.toList.mapM fun f => (P.info? f.type).map fun i => (f.offset, i.size)
  | _ => none

section
variable {P : Program}
theorem run_mapM_places {w : World} : ∀ (fs : List Field) (ps : List (Nat × Nat)), (fs.mapM fun f => (P.info? f.type).map fun i => (f.offset, i.size)) = some ps →
    (fs.mapM fun f => (do pure (f.offset, ← sizeOf f.type) : Sem (Nat × Nat))).run P w = .ok ps w
  | [], ps, h => by simp at h; subst h; rfl
  | f :: fs, ps, h => by
    simp only [List.mapM_cons] at h ⊢
    cases hi : P.info? f.type with
    | none => simp [hi] at h
    | some i =>
      simp only [hi, Option.map_some, Option.bind_eq_bind, Option.bind_some] at h
      cases hr : (fs.mapM fun f => (P.info? f.type).map fun i => (f.offset, i.size)) with
      | none => simp [hr] at h
      | some qs =>
        simp only [hr, Option.bind_some, Option.pure_def, Option.some.injEq] at h
        subst h
        rw [run_bind, run_sizeOf hi]
        have ih := run_mapM_places (w := w) fs qs hr
        simp only [pure, Sem.run] at ih ⊢
        rw [run_bind, ih]
        rfl
theorem run_map {α β : Type} (f : α → β) (s : Sem α) (w : World) : (f <$> s).run P w = (match s.run P w with | .ok a w' => .ok (f a) w' | .halt h w' => .halt h w') := by
  rw [map_eq_pure_bind, run_bind]
  cases s.run P w <;> rfl
theorem run_mapM_arr {w : World} {fs : Array Field} {ps : List (Nat × Nat)} (h : (fs.toList.mapM fun f => (P.info? f.type).map fun i => (f.offset, i.size)) = some ps) :
    (fs.mapM fun f => (do pure (f.offset, ← sizeOf f.type) : Sem (Nat × Nat))).run P w = .ok ps.toArray w := by
  rw [Array.mapM_eq_mapM_toList, run_map, run_mapM_places _ _ h]
theorem run_val (s : Sem Value) {w w' : World} {v : Value} (h : s.run P w = .ok v w') : (do pure (Next.value (← s)) : Sem Next).run P w = .ok (.value v) w' := by
  rw [run_bind, h]; rfl
end
section
variable {P : Program} {n : Cx} {F : (List (Nat × Value))} {w : World} {p : Post} {ops : Array Oper} {rest : List Oper} {d : Option Tmp} {o : Op} {t : TypeId} {pos : String} {af : Array Edge} {g : Option (Nat × Bool)}
theorem EvOp.field0 {s x f a b off} (hs : fieldOff P s f = some off) (hx : XL.ev F x = some (.pointer (some ⟨b, a, none⟩))) : EvOp P F (.fieldAddr s x f) w (.pointer (some ⟨b, a + off, none⟩)) := fun _ _ _ _ _ ρ hρ w' _ => by
  obtain ⟨fs, fd, i, h1, h2, h3, h4, h5⟩ := fieldOff_spec hs
  simp only [execOp, hρ x _ hx, Instr.fieldAt]
  rw [run_bind, run_underlying h1]
  simp only [h2]
  simp only [Instr.sureAddr, fieldPlace, sizeOf, typeInfo, program, bind, Sem.bind, pure, Sem.run, h4, h5, if_false, h3, add_lit]
theorem EvOp.fieldA {s x f a off} (hs : fieldOff P s f = some off) (hx : XL.ev F x = some (.pointer (some a))) : EvOp P F (.fieldAddr s x f) w (.pointer (some (a.add off))) := fun _ _ _ _ _ ρ hρ w' _ => by
  obtain ⟨fs, fd, i, h1, h2, h3, h4, h5⟩ := fieldOff_spec hs
  simp only [execOp, hρ x _ hx, Instr.fieldAt]
  rw [run_bind, run_underlying h1]
  simp only [h2]
  simp only [Instr.sureAddr, fieldPlace, sizeOf, typeInfo, program, bind, Sem.bind, pure, Sem.run, h4, h5, if_false, h3]
theorem EvOp.indexA {ty x ix ad m c k i e s by_} (ht : sliceOf P ty = some (e, s, by_)) (hx : XL.ev F x = some (.slice (some ad) m c)) (hi : XL.ev F ix = some (.int k i)) (h : 0 ≤ i ∧ i < m) : EvOp P F (.indexAddr ty x ix) w (.pointer (some (ad.add (i.toNat * s)))) := fun _ _ _ _ _ ρ hρ w' _ => by
  obtain ⟨h1, j, h2, h3, h4⟩ := sliceOf_spec ht
  simp only [execOp, hρ x _ hx, hρ ix _ hi, Instr.indexAt, asIntOf]
  simp only [bind, Sem.bind, pure]
  have := run_underlying (w := w') h1 (α := Next)
  simp only [bind] at this
  simp only [underlying, program, Sem.bind, Sem.run, h1, pure, bind, h, and_self, if_true, sizeOf, typeInfo, h2, h3]
theorem EvOp.indexArr {ty x ix b a len k i e s} (ht : arrOf P ty = some (len, e, s)) (hx : XL.ev F x = some (.pointer (some ⟨b, a, none⟩))) (hi : XL.ev F ix = some (.int k i)) (h : 0 ≤ i ∧ i < len) : EvOp P F (.indexAddr ty x ix) w (.pointer (some ⟨b, a + i.toNat * s, none⟩)) := fun _ _ _ _ _ ρ hρ w' _ => by
  obtain ⟨h1, j, h2, h3⟩ := arrOf_spec ht
  simp only [execOp, hρ x _ hx, hρ ix _ hi, Instr.indexAt, asIntOf]
  simp only [underlying, program, Instr.sureAddr, bind, Sem.bind, Sem.run, h1, pure, h, and_self, if_true, sizeOf, typeInfo, h2, h3, add_lit]
theorem EvOp.index1 {ty x ix cs len k i e s v} (ht : arrOf P ty = some (len, e, s)) (he : shapeOf P e = some (false, s)) (hx : XL.ev F x = some (.agg cs)) (hi : XL.ev F ix = some (.int k i)) (h : 0 ≤ i ∧ i < len) (hv : cs[i.toNat * s]? = some v) : EvOp P F (.index ty x ix) w v := fun _ _ _ _ _ ρ hρ w' _ => by
  obtain ⟨h1, j, h2, h3⟩ := arrOf_spec ht
  obtain ⟨dd, i', g1, g2, g3, g4⟩ := shapeOf_spec he
  simp only [execOp, hρ x _ hx, hρ ix _ hi, Instr.index, asIntOf]
  simp only [bind, Sem.bind, pure]
  simp only [underlying, program, Sem.bind, Sem.run, h1, pure, bind, h, and_self, if_true, sizeOf, typeInfo, h2, h3]
  have hp : (part e cs (i.toNat * s)).run P w' = .ok v w' := by
    rw [part, run_isAgg g1, g3]
    simp [hv, pure]
  have := run_bind (P := P) (part e cs (i.toNat * s)) (fun v => (Sem.pure (Next.value v) : Sem Next)) w'
  rw [hp] at this
  exact this
theorem EvOp.indexN {ty x ix cs len k i e s} (ht : arrOf P ty = some (len, e, s)) (he : shapeOf P e = some (true, s)) (hx : XL.ev F x = some (.agg cs)) (hi : XL.ev F ix = some (.int k i)) (h : 0 ≤ i ∧ i < len) : EvOp P F (.index ty x ix) w (.agg (cs.extract (i.toNat * s) (i.toNat * s + s))) := fun _ _ _ _ _ ρ hρ w' _ => by
  obtain ⟨h1, j, h2, h3⟩ := arrOf_spec ht
  obtain ⟨dd, i', g1, g2, g3, g4⟩ := shapeOf_spec he
  simp only [execOp, hρ x _ hx, hρ ix _ hi, Instr.index, asIntOf]
  simp only [bind, Sem.bind, pure]
  simp only [underlying, program, Sem.bind, Sem.run, h1, pure, bind, h, and_self, if_true, sizeOf, typeInfo, h2, h3]
  have hp : (part e cs (i.toNat * s)).run P w' = .ok (.agg (cs.extract (i.toNat * s) (i.toNat * s + s))) w' := by
    rw [part, run_isAgg g1, g3]
    simp only [if_true]
    rw [run_sizeOf g2, g4]
    rfl
  have := run_bind (P := P) (part e cs (i.toNat * s)) (fun v => (Sem.pure (Next.value v) : Sem Next)) w'
  rw [hp] at this
  exact this
theorem EvOp.extract {x i vs v} (hx : XL.ev F x = some (.tuple vs)) (hv : vs[i]? = some v) : EvOp P F (.extract x i) w v := fun _ _ _ _ _ ρ hρ w' _ => by
  simp only [execOp, hρ x _ hx, Instr.extract, hv]; rfl
theorem EvOp.fieldV {ty x f cs fs fd v s} (hu : P.underlying ty = some (.struct fs)) (hf : fs[f]? = some fd) (he : shapeOf P fd.type = some (false, s)) (hx : XL.ev F x = some (.agg cs)) (hv : cs[fd.offset]? = some v) : EvOp P F (.field ty x f) w v := fun _ _ _ _ _ ρ hρ w' _ => by
  obtain ⟨dd, i', g1, g2, g3, g4⟩ := shapeOf_spec he
  simp only [execOp, hρ x _ hx, Instr.field]
  rw [run_bind, run_underlying hu]
  simp only [hf, asAgg]
  have hp : (part fd.type cs fd.offset).run P w' = .ok v w' := by
    rw [part, run_isAgg g1, g3]
    simp [hv, pure]
  simp only [bind, Sem.bind, pure]
  rw [hp]
  rfl
theorem EvOp.load1 {ty x a v s} (hs : shapeOf P ty = some (false, s)) (hx : XL.ev F x = some (.pointer (some a))) (hc : w.cell? a = some v) : EvOp P F (.load ty x) w v := fun _ _ _ _ _ ρ hρ w' k => by
  simp only [execOp, hρ x _ hx, Instr.loadAt, Instr.sureAddr, bind, Sem.bind, pure]
  have := run_bind (P := P) (loadVar ty a) (fun v => (Sem.pure (Next.value v) : Sem Next)) w'
  rw [run_loadVar_one hs (cell_sub hc k)] at this
  exact this
theorem EvOp.loadN {ty x a} (cs : List Value) (hs : shapeOf P ty = some (true, cs.length)) (hx : XL.ev F x = some (.pointer (some a))) (hc : Row w a cs) : EvOp P F (.load ty x) w (.agg cs.toArray) := fun _ _ _ _ _ ρ hρ w' k => by
  simp only [execOp, hρ x _ hx, Instr.loadAt, Instr.sureAddr, bind, Sem.bind, pure]
  have := run_bind (P := P) (loadVar ty a) (fun v => (Sem.pure (Next.value v) : Sem Next)) w'
  rw [run_loadVar_agg hs (hc.sub k)] at this
  exact this
theorem EvOp.loadR {ty x a s} (cs : List Value) (hs : shapeOf P ty = some (true, s)) (hx : XL.ev F x = some (.pointer (some a))) (hc : Row w a cs) (hl : cs.length = s) : EvOp P F (.load ty x) w (.agg cs.toArray) := by
  subst hl; exact EvOp.loadN cs hs hx hc
theorem EvOp.func {f xs ys us vs} (hx : evs F xs = some us) (hy : evs F ys = some vs) : EvOp P F (.makeFunc f xs.toArray ys.toArray) w (.func f us.toArray vs.toArray) := fun _ _ _ _ _ ρ hρ w' _ => by
  simp only [execOp, Instr.makeFunc, evs_arr hρ hx, evs_arr hρ hy]; rfl
theorem EvOp.buildS {ty} {xs : List (Nat × Operand)} {vs z ps cs} (hz : zeroOf P ty = some z) (hp : placesOf P ty = some ps) (hx : evp F xs = some vs) (hf : Instr.fill (fun i => ps[i]?) z.cells vs = some cs) : EvOp P F (.build ty xs.toArray) w (.agg cs) := fun _ _ _ _ _ ρ hρ w' _ => by
  unfold placesOf at hp
  split at hp
  · rename_i fs hu
    simp only [execOp]
    refine run_val _ ?_
    rw [Instr.build, run_zeroValue hz, run_underlying hu]
    simp only []
    rw [run_bind, run_mapM_arr hp]
    simp only []
    rw [List.map_toArray, evp_spec hρ xs vs hx]
    simp [hf, pure]
  · cases hp
theorem EvOp.buildA {ty} {xs : List (Nat × Operand)} {vs z cs len e s} (hz : zeroOf P ty = some z) (ht : arrOf P ty = some (len, e, s)) (hx : evp F xs = some vs) (hf : Instr.fill (fun i => some (i * s, s)) z.cells vs = some cs) : EvOp P F (.build ty xs.toArray) w (.agg cs) := fun _ _ _ _ _ ρ hρ w' _ => by
  obtain ⟨h1, j, h2, h3⟩ := arrOf_spec ht
  simp only [execOp]
  refine run_val _ ?_
  rw [Instr.build, run_zeroValue hz, run_underlying h1]
  simp only []
  rw [run_sizeOf h2, h3, List.map_toArray, evp_spec hρ xs vs hx]
  simp [hf, pure]
theorem run_sliceBound {w : World} {k : IntKind} {i : Int} {y : Nat} {c : BoundsCode} (h : 0 ≤ i ∧ i.toNat ≤ y) : (Instr.sliceBound (.int k i) y c).run P w = .ok i.toNat w := by
  simp only [Instr.sliceBound, asIntOf, bind, Sem.bind, pure]
  rw [if_pos (by omega)]; rfl
theorem EvOp.sliceLo {ty x lo a m c k i e s by_} (ht : sliceOf P ty = some (e, s, by_)) (hx : XL.ev F x = some (.slice a m c)) (hi : XL.ev F lo = some (.int k i)) (hb : 0 ≤ i ∧ i ≤ m) :
    EvOp P F (.slice ty x (some lo) none none) w (.slice (if c = i.toNat then a else a.map (·.add (i.toNat * s))) (m - i.toNat) (c - i.toNat)) := fun _ _ _ _ _ ρ hρ w' _ => by
  obtain ⟨h1, j, h2, h3, h4⟩ := sliceOf_spec ht
  simp only [execOp]
  refine run_val _ ?_
  simp only [Instr.sliceAt, hρ x _ hx, Option.map_some, Option.map_none, hρ lo _ hi]
  rw [run_underlying h1]
  simp only [Instr.slice]
  rw [run_underlying h1]
  simp only [Instr.sliceBounds]
  rw [run_bind, run_bind]
  simp only [pure, Sem.run, Option.isSome_none, Bool.false_eq_true, if_false]
  rw [run_bind]
  simp only [Sem.run]
  rw [run_bind, run_sliceBound (by omega)]
  simp only [Sem.run]
  rw [run_sizeOf h2, h3]
  rfl
theorem EvOp.sliceHi {ty x hi_ a m c k i e s by_} (ht : sliceOf P ty = some (e, s, by_)) (hx : XL.ev F x = some (.slice a m c)) (hi : XL.ev F hi_ = some (.int k i)) (hb : 0 ≤ i ∧ i ≤ c) :
    EvOp P F (.slice ty x none (some hi_) none) w (.slice a i.toNat c) := fun _ _ _ _ _ ρ hρ w' _ => by
  obtain ⟨h1, j, h2, h3, h4⟩ := sliceOf_spec ht
  simp only [execOp]
  refine run_val _ ?_
  simp only [Instr.sliceAt, hρ x _ hx, Option.map_some, Option.map_none, hρ hi_ _ hi]
  rw [run_underlying h1]
  simp only [Instr.slice]
  rw [run_underlying h1]
  simp only [Instr.sliceBounds]
  rw [run_bind, run_bind]
  simp only [pure, Sem.run]
  rw [run_bind, run_sliceBound (by omega)]
  simp only []
  rw [run_bind]
  simp only [Sem.run]
  rw [run_sizeOf h2, h3]
  simp only [Sem.run, Nat.zero_mul, Nat.sub_zero, Addr.add, if_true]
  congr 1
  cases a <;> simp
theorem EvOp.sliceHM {ty x hi_ mx a m c k i k' u e s by_} (ht : sliceOf P ty = some (e, s, by_)) (hx : XL.ev F x = some (.slice a m c)) (hi : XL.ev F hi_ = some (.int k i)) (hu : XL.ev F mx = some (.int k' u)) (hb : 0 ≤ i ∧ i ≤ u ∧ u ≤ c) :
    EvOp P F (.slice ty x none (some hi_) (some mx)) w (.slice a i.toNat u.toNat) := fun _ _ _ _ _ ρ hρ w' _ => by
  obtain ⟨h1, j, h2, h3, h4⟩ := sliceOf_spec ht
  simp only [execOp]
  refine run_val _ ?_
  simp only [Instr.sliceAt, hρ x _ hx, Option.map_some, Option.map_none, hρ hi_ _ hi, hρ mx _ hu]
  rw [run_underlying h1]
  simp only [Instr.slice]
  rw [run_underlying h1]
  simp only [Instr.sliceBounds]
  rw [run_bind, run_bind, run_sliceBound (by omega)]
  simp only []
  rw [run_bind, run_sliceBound (by omega)]
  simp only [pure]
  rw [run_bind]
  simp only [Sem.run]
  rw [run_sizeOf h2, h3]
  simp only [Sem.run, Nat.zero_mul, Nat.sub_zero, Addr.add, if_true]
  congr 1
  cases a <;> simp

theorem RL.alloc {el z} (hz : zeroOf P el = some z) (hg : gsat ops F g = some true) (hd : inB d n = true)
    (h : ∀ b w', b = w.heap.size → w'.heap.size = b + 1 → Has w' b z.cells.toList el → Sub w w' → RL P n ops rest (upd F d (.pointer (some ⟨b, 0, none⟩))) w' p) : RL P n ops (⟨d, .alloc el, t, pos, af, g⟩ :: rest) F w p := by
  refine RL.on hg hd (w' := wnew w (.cells z.cells el)) (fun ρ _ => ?_) (h _ _ rfl (wnew_size _ _) (wnew_has _ _ _) (wnew_sub _ _))
  simp only [execOp]
  refine run_val _ ?_
  rw [Instr.alloc, run_zeroValue hz]
  simp only [newVar]
  rw [run_bind, run_newRow]
  rfl
theorem RL.box {el x v} (hx : XL.ev F x = some v) (hg : gsat ops F g = some true) (hd : inB d n = true)
    (h : ∀ b w', b = w.heap.size → w'.heap.size = b + 1 → Has w' b v.cells.toList el → Sub w w' → RL P n ops rest (upd F d (.pointer (some ⟨b, 0, none⟩))) w' p) : RL P n ops (⟨d, .box el x, t, pos, af, g⟩ :: rest) F w p := by
  refine RL.on hg hd (w' := wnew w (.cells v.cells el)) (fun ρ hρ => ?_) (h _ _ rfl (wnew_size _ _) (wnew_has _ _ _) (wnew_sub _ _))
  simp only [execOp, hρ x _ hx]
  refine run_val _ ?_
  rw [Instr.box, newVar, run_bind, run_newRow]
  rfl
theorem RL.store {ty x y b o e cs v k s} (hs : shapeOf P ty = some (k, s)) (hx : XL.ev F x = some (.pointer (some ⟨b, o, none⟩))) (hy : XL.ev F y = some v) (hz : v.cells.size = s) (hb : Has w b cs e) (hl : o + v.cells.toList.length ≤ cs.length) (hp : v.cells.toList.all plainV = true) (hg : gsat ops F g = some true)
    (h : ∀ w', w'.heap.size = w.heap.size → Has w' b (splice cs o v.cells.toList) e → Agr (· = b) w w' → RL P n ops rest F w' p) : RL P n ops (⟨none, .store ty x y, t, pos, af, g⟩ :: rest) F w p := by
  obtain ⟨w', hr, hh, ha, hsz⟩ := run_storeVar (P := P) hs hz hb hl hp
  refine RL.on_skip hg (w' := w') (fun ρ hρ => ?_) (h w' hsz hh ha)
  simp only [execOp, hρ x _ hx, hρ y _ hy, Instr.storeAt, Instr.sureAddr, bind, Sem.bind, pure]
  have := run_bind (P := P) (storeVar ty ⟨b, o, none⟩ v) (fun _ => (Sem.pure Next.skip : Sem Next)) w
  rw [hr] at this
  exact this
end
def FC (P : Program) (f : FuncId) (args : List Value) (w : World) (R : Value → World → Prop) : Prop :=
  Calls P f args.toArray w fun e w' => ∃ v, e = .returned v ∧ R v w'

theorem FC.mono {P f args w} {R R' : Value → World → Prop} (h : FC P f args w R) (hr : ∀ v w', R v w' → R' v w') : FC P f args w R' :=
  Calls.mono h fun _ _ ⟨v, he, hR⟩ => ⟨v, he, hr _ _ hR⟩

theorem calleeOK_spec {P : Program} {f : FuncId} (h : calleeOK P f = true) : ∃ fn, P.funcs[f]? = some fn ∧ (fn.name == "runtime.NumGoroutine") = false ∧ fn.body.isNone = false := by
  unfold calleeOK at h
  split at h
  · rename_i fn hf
    simp only [Bool.and_eq_true, bne_iff_ne, ne_eq] at h
    refine ⟨fn, hf, by simpa using h.1, by cases hb : fn.body <;> simp_all⟩
  · cases h

section
variable {P : Program} {n : Cx} {F : (List (Nat × Value))} {w : World} {p : Post} {ops : Array Oper} {rest : List Oper} {d : Option Tmp} {o : Op} {t : TypeId} {pos : String} {af : Array Edge} {g : Option (Nat × Bool)}
theorem run_callFunc {f : FuncId} {args : Array Value} (h : calleeOK P f = true) : (callFunc f args).run P w = .ok (.enter f args) w := by
  obtain ⟨fn, hf, h1, h2⟩ := calleeOK_spec h
  simp only [callFunc, program, bind, Sem.bind, Sem.run, hf, h1, h2, Bool.false_eq_true, if_false]
  rfl

theorem RL.calls {f : FuncId} {args : List Value} (hr : ∀ ρ, Agrees F ρ → (execOp ρ ⟨d, o, t, pos, af, g⟩).run P w = .ok (.enter f args.toArray) w) {R : Value → World → Prop} (hc : FC P f args w R) (hg : gsat ops F g = some true) (hd : inB d n = true)
    (h : ∀ v w', R v w' → RL P n ops rest (upd F d v) w' p) : RL P n ops (⟨d, o, t, pos, af, g⟩ :: rest) F w p := by
  intro a k
  have he := hr _ k.agrees
  cases hq : n.round with
  | none =>
    rw [lwp_none hq]
    simp only [wpList]
    rw [wanted_of k hg]
    refine .inl ?_
    simp only [Oper.wp, he, Oper.upon]
    refine Calls.mono hc ?_
    rintro e w' ⟨v, rfl, hR⟩
    have := h v w' hR _ (k.upd d v hd)
    rwa [lwp_none hq] at this
  | some r =>
    rw [lwp_some hq]
    simp only [wpListIn]
    rw [wanted_of k hg, if_pos rfl]
    refine ⟨fun _ _ => trivial, ?_⟩
    rw [Oper.semAt_eq _ _ _ (not_defer he (fun _ e => by cases e)), he]
    refine ⟨fun e => (by cases e), ?_⟩
    refine CallsIn.mono (callsIn_rfe hc) ?_
    rintro e w' ⟨v, rfl, hR⟩
    have := h v w' hR _ (k.upd d v hd)
    rwa [lwp_some hq] at this

theorem run_call {f : FuncId} {xs : List Operand} {vs : List Value} {ts : Array TypeId} (hx : evs F xs = some vs) (hf : calleeOK P f = true) (ρ : Operand → Value) (hρ : Agrees F ρ) :
    (execOp ρ ⟨d, .call ⟨.value (.func f), xs.toArray, ts⟩, t, pos, af, g⟩).run P w = .ok (.enter f vs.toArray) w := by
  have h0 : ρ (.func f) = .func (.func f) #[] #[] := hρ _ _ rfl
  simp only [execOp, resolve, h0, Deferred.ofValue, evs_arr hρ hx, bind, Sem.bind, pure, invoke]
  simp only [Array.append_empty, Array.empty_append]
  exact run_callFunc hf
theorem run_callv {f : FuncId} {y : Operand} {xs : List Operand} {us cs vs : List Value} {ts : Array TypeId} (hy : XL.ev F y = some (.func (.func f) us.toArray cs.toArray)) (hx : evs F xs = some vs) (hf : calleeOK P f = true) (ρ : Operand → Value) (hρ : Agrees F ρ) :
    (execOp ρ ⟨d, .call ⟨.value y, xs.toArray, ts⟩, t, pos, af, g⟩).run P w = .ok (.enter f (us ++ vs ++ cs).toArray) w := by
  simp only [execOp, resolve, hρ y _ hy, Deferred.ofValue, evs_arr hρ hx, bind, Sem.bind, pure, invoke, List.append_toArray]
  exact run_callFunc hf
theorem RL.call {f : FuncId} {xs : List Operand} {vs : List Value} {ts : Array TypeId} (hx : evs F xs = some vs) (hf : calleeOK P f = true) {R : Value → World → Prop} (hc : FC P f vs w R) (hg : gsat ops F g = some true) (hd : inB d n = true)
    (h : ∀ v w', R v w' → RL P n ops rest (upd F d v) w' p) : RL P n ops (⟨d, .call ⟨.value (.func f), xs.toArray, ts⟩, t, pos, af, g⟩ :: rest) F w p :=
  RL.calls (fun ρ hρ => run_call hx hf ρ hρ) hc hg hd h
theorem RL.callv {f : FuncId} {y : Operand} {xs : List Operand} {us cs vs : List Value} {ts : Array TypeId} (hy : XL.ev F y = some (.func (.func f) us.toArray cs.toArray)) (hx : evs F xs = some vs) (hf : calleeOK P f = true) {R : Value → World → Prop} (hc : FC P f (us ++ vs ++ cs) w R) (hg : gsat ops F g = some true) (hd : inB d n = true)
    (h : ∀ v w', R v w' → RL P n ops rest (upd F d v) w' p) : RL P n ops (⟨d, .call ⟨.value y, xs.toArray, ts⟩, t, pos, af, g⟩ :: rest) F w p :=
  RL.calls (fun ρ hρ => run_callv hy hx hf ρ hρ) hc hg hd h

def env0 : Nat → List Value → (List (Nat × Value))
  | _, [] => []
  | i, v :: vs => (i, v) :: env0 (i + 1) vs
theorem look_env0 (vs : List Value) : ∀ i t v, look (env0 i vs) t = some v → i ≤ t ∧ vs[t - i]? = some v := by
  induction vs with
  | nil => intro i t v h; simp [env0, look] at h
  | cons u vs ih =>
    intro i t v h
    rw [env0, look_cons] at h
    split at h
    · rename_i e; subst e; simp at h; subst h; simp
    · rename_i hne
      obtain ⟨h1, h2⟩ := ih (i + 1) t v h
      refine ⟨by omega, ?_⟩
      rw [show t - i = (t - (i + 1)) + 1 by omega]; simpa using h2

def resV (P : Program) (F : (List (Nat × Value))) (w : World) : ResultVar → Value → Prop
  | .tmp t, v => look F t = some v
  | .cell a t, v => ∃ ad, look F a = some (.pointer (some ad)) ∧ ((∃ s, shapeOf P t = some (false, s) ∧ w.cell? ad = some v) ∨ (∃ cs : List Value, shapeOf P t = some (true, cs.length) ∧ Row w ad cs ∧ v = .agg cs.toArray))
def resVs (P : Program) (F : (List (Nat × Value))) (w : World) : List ResultVar → List Value → Prop
  | [], [] => True
  | r :: rs, v :: vs => resV P F w r v ∧ resVs P F w rs vs
  | _, _ => False
def tup : List Value → Value | [v] => v | vs => .tuple vs.toArray

def rvSem (tmps : Array Value) : ResultVar → Sem Value
  | .tmp t => pure (tmps.getD t undef)
  | .cell a t => do loadVar t (← asAddr (tmps.getD a undef))
theorem results_eq (fn : Func) (tmps : Array Value) : results fn tmps = (fn.results.mapM (rvSem tmps) >>= fun vs => pure (if h : vs.size = 1 then vs[0] else .tuple vs)) := by
  unfold results
  congr 2
theorem run_resV {a : Act} (k : Knows n F a) {r v} (h : resV P F w r v) : (rvSem a.tmps r).run P w = .ok v w := by
  unfold rvSem
  cases r with
  | tmp t => have := k.slot t v h; simp [this, pure]
  | cell x t =>
    obtain ⟨ad, hl, h⟩ := h
    have hs := k.slot x _ hl
    simp only [Array.getD_eq_getD_getElem?, hs, Option.getD_some, asAddr, bind, Sem.bind, pure]
    rcases h with ⟨s, hs, hc⟩ | ⟨cs, hs, hr, rfl⟩
    · exact run_loadVar_one hs hc
    · exact run_loadVar_agg hs hr
theorem run_results {a : Act} (k : Knows n F a) {fn : Func} {rs : List ResultVar} (hrs : fn.results = rs.toArray) {vs : List Value} (h : resVs P F w rs vs) : (results fn a.tmps).run P w = .ok (tup vs) w := by
  rw [results_eq, run_bind, hrs, Array.mapM_eq_mapM_toList, run_map]
  have key : ∀ (rs : List ResultVar) (vs : List Value), resVs P F w rs vs → (rs.mapM (rvSem a.tmps)).run P w = .ok vs w := by
    intro rs
    induction rs with
    | nil => intro vs h; cases vs <;> simp_all [resVs]
    | cons r rs ih =>
      intro vs h
      cases vs with
      | nil => simp [resVs] at h
      | cons v vs =>
        obtain ⟨h1, h2⟩ := h
        rw [List.mapM_cons, run_bind, run_resV k h1]
        simp only []
        rw [run_bind, ih vs h2]
        rfl
  rw [key rs vs h]
  simp only [pure, Sem.run]
  match vs with
  | [] => simp [tup]
  | [v] => simp [tup]
  | u :: v :: vs => simp [tup]

def Post.fn (P : Program) (fn : Func) (R : Value → World → Prop) : Post :=
  let r : Act → World → Prop := fun a w => a.defers = [] ∧ ∃ v, (results fn a.tmps).run P w = .ok v w ∧ R v w
  ⟨r, [], r⟩

theorem FC.intro {f : FuncId} {fn : Func} {c : Code} {args : List Value} {R : Value → World → Prop} {m : Nat} (hf : P.funcs[f]? = some fn) (hb : fn.body = some c) (hn : fn.ntmps = m) (ha : Nat.ble args.length m = true)
    (h : RC P ⟨m, none, []⟩ c (env0 0 args) w (Post.fn P fn R)) : FC P f args w R := by
  have ha' : args.length ≤ m := by simpa using ha
  refine calls_of_wp hf hb (wp_mono (h _ ⟨?_, rfl, ?_⟩) ?_)
  · simp [hn]; omega
  · intro t v ht
    obtain ⟨_, h2⟩ := look_env0 args 0 t v ht
    simp only [Nat.sub_zero] at h2
    have hlt : t < args.length := by
      rcases Nat.lt_or_ge t args.length with g | g
      · exact g
      · rw [List.getElem?_eq_none g] at h2; cases h2
    simp only []
    rw [Array.getElem?_append_left (by simpa using hlt)]
    simpa using h2
  · intro e a w' hq
    cases e <;> simp only [Post.q, Post.fn, lookX] at hq <;> first | exact hq.elim | skip
    · obtain ⟨h1, v, h2, h3⟩ := hq; exact ⟨h1, v, h2, v, rfl, h3⟩
    · obtain ⟨h1, v, h2, h3⟩ := hq; exact ⟨h1, v, h2, v, rfl, h3⟩
theorem RC.done {fn : Func} {R : Value → World → Prop} {rs : List ResultVar} {vs : List Value} (hrs : fn.results = rs.toArray) (hp : p.ret = (Post.fn P fn R).ret) (hv : resVs P F w rs vs) (hR : R (tup vs) w) (hM : n.marks = [] := by rfl) : RC P n .ret F w p :=
  RC.ret fun a k => by rw [hp]; exact ⟨k.defers.trans hM, _, run_results k hrs hv, hR⟩
def RQ (P : Program) (n : Cx) (ops : Array Oper) (l : List Oper) (F : (List (Nat × Value))) (w : World) (K : Act → Prop) : Prop := ∀ a, Knows n F a → wpQuiet P ops (Sub w) K l a

theorem RC.draw {id l} (hl : ops = List.toArray l) (hm : P.follows .mixedOrders = true) (hB : Region.lexB .any ops = true) (h : RQ P n ops l F w (fun a => ∀ w', Sub w w' → p.nrm a w')) (hR : n.round = none := by rfl) : RC P n (.region id ops true) F w p := by
  intro a k
  rw [cwp_none hR]
  refine wp_region_quiet (C := Sub w) hm hB ⟨rfl, rfl, rfl, Nat.le_refl _, fun _ _ => rfl⟩ ?_
  subst hl
  exact h a k
theorem RQ.nil (h : ∀ w', Sub w w' → ∀ a, Knows n F a → p.nrm a w') : RQ P n ops [] F w (fun a => ∀ w', Sub w w' → p.nrm a w') := fun a k => wpQuiet_nil fun w' hw => h w' hw a k
theorem RQ.ev {v K} (he : EvOp P F o w v) (hg : gsat ops F g = some true) (hd : inB d n = true) (h : RQ P n ops rest (upd F d v) w K) : RQ P n ops (⟨d, o, t, pos, af, g⟩ :: rest) F w K := by
  intro a k
  refine wpQuiet_step fun K' hK' => ?_
  rw [wanted_of k hg]
  refine ⟨v, fun w' hw' => ?_, hK' _ (h _ (k.upd d v hd))⟩
  rw [Oper.quietAt, he d t pos af g _ k.agrees w' hw']
  exact ⟨rfl, rfl⟩
theorem RQ.off {K} (hg : gsat ops F g = some false) (hd : inB d n = true) (h : RQ P n ops rest (upd F d undef) w K) : RQ P n ops (⟨d, o, t, pos, af, g⟩ :: rest) F w K := by
  intro a k
  refine wpQuiet_step fun K' hK' => ?_
  rw [wanted_of k hg]
  exact hK' _ (h _ (k.upd d undef hd))
theorem RQ.calls {f : FuncId} {args : List Value} {v K} (hr : ∀ w' ρ, Agrees F ρ → (execOp ρ ⟨d, o, t, pos, af, g⟩).run P w' = .ok (.enter f args.toArray) w') (hc : ∀ w', Sub w w' → FC P f args w' (fun u w'' => u = v ∧ Sub w' w'')) (hg : gsat ops F g = some true) (hd : inB d n = true)
    (h : RQ P n ops rest (upd F d v) w K) : RQ P n ops (⟨d, o, t, pos, af, g⟩ :: rest) F w K := by
  intro a k
  refine wpQuiet_step fun K' hK' => ?_
  rw [wanted_of k hg]
  refine ⟨v, fun w' hw' => ?_, hK' _ (h _ (k.upd d v hd))⟩
  rw [Oper.quietAt, hr w' _ k.agrees]
  refine ⟨rfl, Calls.mono (hc w' hw') ?_⟩
  rintro e w'' ⟨u, rfl, rfl, hs⟩
  exact ⟨rfl, hw'.trans hs⟩
theorem RQ.call {f : FuncId} {xs : List Operand} {vs : List Value} {ts : Array TypeId} {v K} (hx : evs F xs = some vs) (hf : calleeOK P f = true) (hc : ∀ w', Sub w w' → FC P f vs w' (fun u w'' => u = v ∧ Sub w' w'')) (hg : gsat ops F g = some true) (hd : inB d n = true)
    (h : RQ P n ops rest (upd F d v) w K) : RQ P n ops (⟨d, .call ⟨.value (.func f), xs.toArray, ts⟩, t, pos, af, g⟩ :: rest) F w K :=
  RQ.calls (fun _ ρ hρ => run_call hx hf ρ hρ) hc hg hd h
theorem RQ.split {q : Prop} [Decidable q] {l K} (s : Nat) (hs : look F s = some (.bool (decide q))) (hy : q → RQ P n ops l ((s, .bool true) :: F) w K) (hn : ¬ q → RQ P n ops l ((s, .bool false) :: F) w K) : RQ P n ops l F w K := by
  intro a k
  by_cases hq : q
  · refine hy hq a ⟨k.size, k.defers, fun t v ht => ?_⟩
    rw [look_cons] at ht
    by_cases e : s = t
    · subst e; simp at ht; subst ht; simpa [hq] using k.slot _ _ hs
    · rw [if_neg e] at ht; exact k.slot _ _ ht
  · refine hn hq a ⟨k.size, k.defers, fun t v ht => ?_⟩
    rw [look_cons] at ht
    by_cases e : s = t
    · subst e; simp at ht; subst ht; simpa [hq] using k.slot _ _ hs
    · rw [if_neg e] at ht; exact k.slot _ _ ht
theorem RQ.splitB {b : Bool} {l K} (s : Nat) (hs : look F s = some (.bool b)) (hy : b = true → RQ P n ops l ((s, .bool true) :: F) w K) (hn : b = false → RQ P n ops l ((s, .bool false) :: F) w K) : RQ P n ops l F w K :=
  RQ.split (q := b = true) s (by rw [hs]; simp) hy (fun h => hn (by simpa using h))
end
theorem Has.upd {w w' b b' cs e} (h : Has w b cs e) (a : Agr (· = b') w w') (hn : b ≠ b') : Has w' b cs e := h.step a hn
theorem Has.ne {w b cs e b'} (h : Has w b cs e) (hb : b' = w.heap.size) : b ≠ b' := fun e => by have := h.lt; omega
theorem Sub.upd {w0 w w' : World} {b : Nat} (s : Sub w0 w) (a : Agr (· = b) w w') (hb : w0.heap.size ≤ b) : Sub w0 w' :=
  ⟨a.os.trans s.os, a.tape.trans s.tape, a.output.trans s.output, Nat.le_trans s.size a.size, fun k hk => (a.block k (Nat.lt_of_lt_of_le hk s.size) (by omega)).trans (s.block k hk)⟩
theorem Sub.le {w0 w : World} {b : Nat} (s : Sub w0 w) (hb : b = w.heap.size) : w0.heap.size ≤ b := hb ▸ s.size

structure Sl (w : World) (a : Option Addr) (sz : Nat) (rows : List (List Value)) : Prop where
  some : rows ≠ [] → a.isSome
  row : ∀ i r, rows[i]? = .some r → Row w ((a.getD default).add (i * sz)) r

theorem Sl.sub {w w' a sz rows} (h : Sl w a sz rows) (s : Sub w w') : Sl w' a sz rows := ⟨h.some, fun i r hr => (h.row i r hr).sub s⟩
theorem Sl.take {w a sz rows} (h : Sl w a sz rows) (k : Nat) : Sl w a sz (rows.take k) :=
  ⟨fun e => h.some (by intro e'; subst e'; simp at e), fun i r hr => h.row i r (by rw [List.getElem?_take] at hr; split at hr; exact hr; cases hr)⟩
theorem Sl.nil (w : World) (a : Option Addr) (sz : Nat) : Sl w a sz [] := ⟨fun h => absurd rfl h, fun i r hr => by simp at hr⟩
theorem Sl.is {w a sz rows} (h : Sl w a sz rows) {i : Nat} (hi : i < rows.length) : a = .some (a.getD default) := by
  have := h.some (by intro e; subst e; simp at hi)
  cases a with
  | none => simp at this
  | some x => rfl
theorem Sl.cell {α : Type} {enc : α → List Value} {l : List α} {w a sz} (h : Sl w a sz (l.map enc)) {i : Nat} {x : α} (hx : l[i]? = .some x) {j v} (hv : (enc x)[j]? = .some v) : w.cell? (((a.getD default).add (i * sz)).add j) = .some v :=
  h.row i (enc x) (by simp [hx]) j v hv
theorem Sl.rowAt {α : Type} {enc : α → List Value} {l : List α} {w a sz} (h : Sl w a sz (l.map enc)) {i : Nat} {x : α} (hx : l[i]? = .some x) : Row w ((a.getD default).add (i * sz)) (enc x) :=
  h.row i (enc x) (by simp [hx])
theorem Sl.one {α : Type} {enc : α → Value} {l : List α} {w a} (h : Sl w a 1 (l.map fun x => [enc x])) {i : Nat} {x : α} (hx : l[i]? = .some x) : w.cell? ((a.getD default).add (i * 1)) = .some (enc x) := by
  have := h.row i [enc x] (by simp [hx]) 0 (enc x) rfl
  simpa [Addr.add] using this

section
variable {P : Program} {n : Cx} {F : (List (Nat × Value))} {w : World} {p : Post} {ops : Array Oper} {rest : List Oper} {d : Option Tmp} {o : Op} {t : TypeId} {pos : String} {af : Array Edge} {g : Option (Nat × Bool)}
theorem EvOp.indexS {ty x ix a m c k i e s by_} (ht : sliceOf P ty = some (e, s, by_)) (hx : XL.ev F x = some (.slice a m c)) (hi : XL.ev F ix = some (.int k i)) (h : 0 ≤ i ∧ i < m) (ha : a = some (a.getD default)) : EvOp P F (.indexAddr ty x ix) w (.pointer (some ((a.getD default).add (i.toNat * s)))) := by
  generalize hz : a.getD default = ad at ha ⊢
  subst ha
  exact EvOp.indexA ht hx hi h

theorem RC.cond_t {c x y} (hc : XL.ev F c = some (.bool true)) (h : RC P n x F w p) : RC P n (.cond c x y) F w p := RC.cond hc (fun _ => h) (fun e => by cases e)
theorem RC.cond_f {c x y} (hc : XL.ev F c = some (.bool false)) (h : RC P n y F w p) : RC P n (.cond c x y) F w p := RC.cond hc (fun e => by cases e) (fun _ => h)

end
theorem flat_rep {α : Type} (z : List α) (hs : 0 < z.length) : ∀ (m i : Nat), (List.replicate m z).flatten[i]? = if i < m * z.length then z[i % z.length]? else none
  | 0, i => by simp
  | m + 1, i => by
    rw [List.replicate_succ, List.flatten_cons, List.getElem?_append, flat_rep z hs m]
    have e : (m + 1) * z.length = m * z.length + z.length := Nat.succ_mul _ _
    by_cases h : i < z.length
    · rw [if_pos h, if_pos (by omega), Nat.mod_eq_of_lt h]
    · rw [if_neg h, Nat.mod_eq_sub_mod (by omega : i ≥ z.length)]
      by_cases h2 : i - z.length < m * z.length
      · rw [if_pos h2, if_pos (by omega)]
      · rw [if_neg h2, if_neg (by omega)]

theorem zeros_list (z : Array Value) (hs : 0 < z.size) (m : Nat) : (Array.range (m * z.size)).map (fun i => z[i % z.size]!) = (List.replicate m z.toList).flatten.toArray := by
  apply Array.ext'
  apply List.ext_getElem?
  intro i
  have hl : 0 < z.toList.length := by simpa using hs
  rw [flat_rep z.toList hl m i, Array.getElem?_toList, Array.getElem?_map]
  simp only [Array.length_toList, Array.getElem?_toList]
  by_cases h : i < m * z.size
  · have hm : i % z.size < z.size := Nat.mod_lt _ hs
    rw [if_pos h, Array.getElem?_eq_getElem (by simpa using h)]
    simp [hm]
  · rw [if_neg h, Array.getElem?_eq_none (by simpa using h)]; rfl

theorem flat_get {α : Type} {sz : Nat} : ∀ (rows : List (List α)), (∀ r ∈ rows, r.length = sz) → ∀ (i j : Nat) (r : List α), rows[i]? = some r → j < sz → rows.flatten[i * sz + j]? = r[j]?
  | [], _, i, j, r, h, _ => by simp at h
  | q :: rows, hl, i, j, r, h, hj => by
    have hq : q.length = sz := hl q (by simp)
    rw [List.flatten_cons, List.getElem?_append]
    cases i with
    | zero => simp at h; subst h; rw [if_pos (by omega)]; simp
    | succ i =>
      have e : (i + 1) * sz = i * sz + sz := Nat.succ_mul _ _
      rw [if_neg (by omega), show (i + 1) * sz + j - q.length = i * sz + j by omega]
      exact flat_get rows (fun r hr => hl r (by simp [hr])) i j r (by simpa using h) hj
theorem flat_len {α : Type} {sz : Nat} : ∀ (rows : List (List α)), (∀ r ∈ rows, r.length = sz) → rows.flatten.length = rows.length * sz
  | [], _ => by simp
  | q :: rows, hl => by
    rw [List.flatten_cons, List.length_append, flat_len rows (fun r hr => hl r (by simp [hr])), hl q (by simp), List.length_cons, Nat.succ_mul]; omega
theorem flat_set {sz : Nat} (rows : List (List Value)) (hl : ∀ r ∈ rows, r.length = sz) (i : Nat) (hi : i < rows.length) (r : List Value) (hr : r.length = sz) : splice rows.flatten (i * sz) r = (rows.set i r).flatten := by
  apply List.ext_getElem?
  intro k
  have hl' : ∀ q ∈ rows.set i r, q.length = sz := by
    intro q hq
    rcases List.mem_or_eq_of_mem_set hq with h | h
    · exact hl q h
    · exact h ▸ hr
  rw [splice_get, flat_len rows hl]
  by_cases hk : k < rows.length * sz
  · have hsz : 0 < sz := by rcases Nat.eq_zero_or_pos sz with h | h; · subst h; simp at hk
                            · exact h
    rw [if_pos hk]
    have hd : k / sz < rows.length := (Nat.div_lt_iff_lt_mul hsz).2 hk
    have hm : k % sz < sz := Nat.mod_lt _ hsz
    have ek : k = (k / sz) * sz + k % sz := by rw [Nat.mul_comm]; exact (Nat.div_add_mod k sz).symm
    obtain ⟨q, hq⟩ : ∃ q, (rows.set i r)[k / sz]? = some q := ⟨_, List.getElem?_eq_getElem (by simpa using hd)⟩
    have h1 := flat_get (rows.set i r) hl' (k / sz) (k % sz) q hq hm
    rw [← ek] at h1
    rw [h1]
    by_cases hki : k / sz = i
    · subst hki
      rw [List.getElem?_set_self hd] at hq
      cases hq
      rw [if_pos ⟨by omega, by rw [hr]; omega⟩]
      congr 1; omega
    · rw [List.getElem?_set_ne (fun e => hki e.symm)] at hq
      have h2 := flat_get rows hl (k / sz) (k % sz) q hq hm
      rw [← ek] at h2
      rw [if_neg ?_, h2]
      rintro ⟨g1, g2⟩
      rw [hr] at g2
      apply hki
      have hle : i * sz ≤ k := g1
      have hlt : k < (i + 1) * sz := by rw [Nat.succ_mul]; exact g2
      exact Nat.le_antisymm (Nat.lt_succ_iff.1 ((Nat.div_lt_iff_lt_mul hsz).2 hlt)) ((Nat.le_div_iff_mul_le hsz).2 hle)
  · rw [if_neg hk, List.getElem?_eq_none]
    rw [flat_len _ hl', List.length_set]; omega

theorem Has.sl {w b e sz} {rows : List (List Value)} {extra : List Value} (h : Has w b (rows.flatten ++ extra) e) (hl : ∀ r ∈ rows, r.length = sz) : Sl w (some ⟨b, 0, none⟩) sz rows :=
  ⟨fun _ => rfl, fun i r hr j v hv => by
    have hj : j < sz := by
      have := hl r (List.mem_of_getElem? hr)
      rcases Nat.lt_or_ge j r.length with g | g
      · omega
      · rw [List.getElem?_eq_none g] at hv; cases hv
    simp only [Option.getD_some, add_lit, Nat.zero_add]
    refine h.cell ?_
    have := flat_get rows hl i j r hr hj
    rw [List.getElem?_append_left, this]; exact hv
    rcases Nat.lt_or_ge (i * sz + j) rows.flatten.length with g | g
    · exact g
    · rw [List.getElem?_eq_none g] at this; rw [hv] at this; cases this⟩
theorem Has.sl0 {w b e sz} {rows : List (List Value)} (h : Has w b rows.flatten e) (hl : ∀ r ∈ rows, r.length = sz) : Sl w (some ⟨b, 0, none⟩) sz rows :=
  Has.sl (extra := []) (by simpa using h) hl

section
variable {P : Program} {n : Cx} {F : (List (Nat × Value))} {w : World} {p : Post} {ops : Array Oper} {rest : List Oper} {d : Option Tmp} {o : Op} {t : TypeId} {pos : String} {af : Array Edge} {g : Option (Nat × Bool)}
theorem RL.makeSlice {ty x y m e s by_ z} (ht : sliceOf P ty = some (e, s, by_)) (hz : zeroOf P e = some z) (hzs : z.cells.size = s) (hs : Nat.blt 0 s = true) (hx : XL.ev F x = some (.int .i64 m)) (hy : XL.ev F y = some (.int .i64 m)) (hm : 0 ≤ m ∧ m * by_ ≤ 140737488355328 ∧ m ≤ 140737488355328) (hg : gsat ops F g = some true) (hd : inB d n = true)
    (h : ∀ b w', b = w.heap.size → w'.heap.size = b + 1 → Has w' b (List.replicate m.toNat z.cells.toList).flatten e → Sub w w' → RL P n ops rest (upd F d (.slice (some ⟨b, 0, none⟩) m.toNat m.toNat)) w' p) : RL P n ops (⟨d, .makeSlice ty x y, t, pos, af, g⟩ :: rest) F w p := by
  have hs' : 0 < s := by simpa using hs
  refine RL.on hg hd (w' := wnew w (.cells (List.replicate m.toNat z.cells.toList).flatten.toArray e)) (fun ρ hρ => ?_) (h _ _ rfl (wnew_size _ _) (wnew_has _ _ _) (wnew_sub _ _))
  obtain ⟨h1, j, h2, h3, h4⟩ := sliceOf_spec ht
  obtain ⟨i, hi, hzz⟩ := zeroOf_spec hz
  rw [h2] at hi; cases hi
  simp only [execOp, hρ x _ hx, hρ y _ hy]
  refine run_val _ ?_
  have hr := run_make (P := P) w ty e j z h1 h2 hzz .i64 .i64 m m hm.1 (Int.le_refl _) (by rw [h4, Int.mul_comm]; omega) (by omega)
  rw [hr, h3, ← hzs]
  have := zeros_list z.cells (by omega) m.toNat
  unfold madeCells
  rw [this]
  rfl
theorem run_zeroValue' {t z} {w : World} (h : zeroOf P t = some z) : (zeroValue t).run P w = .ok z w := by
  obtain ⟨i, hi, hz⟩ := zeroOf_spec h
  simp [zeroValue, typeInfo, program, bind, Sem.bind, Sem.run, hi, hz, pure]
theorem RL.buildSlice {ty m} {xs : List (Nat × Operand)} {vs e s by_ z cs} (ht : sliceOf P ty = some (e, s, by_)) (hz : zeroOf P e = some z) (hx : evp F xs = some vs) (hm : Nat.ble (m * s) 16777216 = true) (hm0 : Nat.beq (m * s) 0 = false)
    (hf : Instr.fill (fun i => some (i * s, s)) ((Array.range (m * s)).map (z.cells[· % z.cells.size]!)) vs = some cs) (hg : gsat ops F g = some true) (hd : inB d n = true)
    (h : ∀ b w', b = w.heap.size → w'.heap.size = b + 1 → Has w' b cs.toList e → Sub w w' → RL P n ops rest (upd F d (.slice (some ⟨b, 0, none⟩) m m)) w' p) : RL P n ops (⟨d, .buildSlice ty m xs.toArray, t, pos, af, g⟩ :: rest) F w p := by
  refine RL.on hg hd (w' := wnew w (.cells cs e)) (fun ρ hρ => ?_) (h _ _ rfl (wnew_size _ _) (wnew_has _ _ _) (wnew_sub _ _))
  obtain ⟨h1, j, h2, h3, h4⟩ := sliceOf_spec ht
  have hm' : ¬ (m * s > 2 ^ 24) := by have : m * s ≤ 16777216 := by simpa using hm
                                      omega
  have hm0' : ¬ m * s = 0 := by intro e; rw [e] at hm0; cases hm0
  simp only [execOp]
  refine run_val _ ?_
  rw [Instr.buildSlice, run_underlying h1]
  simp only []
  rw [run_sizeOf h2, h3, if_neg hm', if_neg hm0']
  rw [run_bind]
  rw [run_zeroValue' hz]
  simp only []
  rw [run_bind]
  simp only [pure, Sem.run]
  have hmap : (Array.map (fun (x : Nat × Operand) => (x.fst, ρ x.snd)) xs.toArray).toList = vs := by
    rw [Array.toList_map]; exact evp_spec hρ xs vs hx
  rw [hmap]
  rw [hf]
  simp only []
  rw [run_bind, run_newRow]
  rfl
theorem RL.buildSlice1 {ty x v e s by_} (ht : sliceOf P ty = some (e, s, by_)) (z : Value) (hz : zeroOf P e = some z) (hzs : z.cells.size = s) (hx : XL.ev F x = some v) (hvs : v.cells.size = s) (hs : Nat.blt 0 s = true) (hs' : Nat.ble s 16777216 = true) (hg : gsat ops F g = some true) (hd : inB d n = true)
    (h : ∀ b w', b = w.heap.size → w'.heap.size = b + 1 → Has w' b v.cells.toList e → Sub w w' → RL P n ops rest (upd F d (.slice (some ⟨b, 0, none⟩) 1 1)) w' p) : RL P n ops (⟨d, .buildSlice ty 1 #[(0, x)], t, pos, af, g⟩ :: rest) F w p := by
  have h0 : 0 < s := by simpa using hs
  refine RL.buildSlice (xs := [(0, x)]) (vs := [(0, v)]) (cs := v.cells) ht hz (by simp [evp, hx]) (by simpa using hs') (by rw [Nat.one_mul]; cases s with | zero => omega | succ s => rfl) ?_ hg hd h
  simp only [Instr.fill, Nat.zero_mul, Nat.zero_add, hvs, Array.size_map, Array.size_range, Nat.one_mul, ne_eq, not_true_eq_false, decide_false, gt_iff_lt, Nat.lt_irrefl, Bool.or_self, Bool.false_eq_true, if_false]
  congr 1
  have key : ∀ (l : List Value) (cs : List Value) (k : Nat), k + l.length = cs.length → (l.zipIdx k).foldl (fun (cs : Array Value) (c, j) => cs.setIfInBounds j c) cs.toArray = (cs.take k ++ l).toArray := by
    intro l
    induction l with
    | nil => intro cs k hk; simp at hk; simp [List.take_of_length_le (Nat.le_of_eq hk.symm)]
    | cons a l ih =>
      intro cs k hk
      simp only [List.length_cons] at hk
      simp only [List.zipIdx_cons, List.foldl_cons, List.setIfInBounds_toArray]
      rw [ih (cs.set k a) (k + 1) (by simp; omega)]
      congr 1
      rw [List.take_add_one, List.getElem?_set_self (by omega), List.take_set, List.set_eq_of_length_le (by simp; omega)]
      simp
  have := key v.cells.toList ((Array.range s).map (z.cells[· % z.cells.size]!)).toList 0 (by simp [hvs])
  simp only [List.take_zero, List.nil_append, Array.toArray_toList] at this
  rw [← Array.foldl_toList, Array.toList_zipIdx]
  exact this

def numbered : Nat → List Value → List (Nat × Value)
  | _, [] => []
  | k, v :: vs => (k, v) :: numbered (k + 1) vs
def allSz (s : Nat) : List Value → Prop
  | [] => True
  | v :: vs => v.cells.size = s ∧ allSz s vs
def catV : List Value → List Value
  | [] => []
  | v :: vs => v.cells.toList ++ catV vs
theorem setCells : ∀ (l : List Value) (cs : List Value) (k j : Nat), k + j + l.length ≤ cs.length → (l.zipIdx j).foldl (fun (cs : Array Value) (c, j) => cs.setIfInBounds (k + j) c) cs.toArray = (cs.take (k + j) ++ l ++ cs.drop (k + j + l.length)).toArray := by
  intro l
  induction l with
  | nil => intro cs k j hk; simp
  | cons a l ih =>
    intro cs k j hk
    simp only [List.length_cons] at hk
    simp only [List.zipIdx_cons, List.foldl_cons, List.setIfInBounds_toArray]
    rw [ih (cs.set (k + j) a) k (j + 1) (by simp; omega)]
    congr 1
    rw [show k + (j + 1) = k + j + 1 by omega, List.take_add_one, List.getElem?_set_self (by omega), List.take_set, List.set_eq_of_length_le (by simp; omega), List.drop_set]
    rw [if_pos (by omega)]
    simp only [List.length_cons, Option.toList, List.append_assoc, List.cons_append, List.nil_append]
    rw [show k + j + 1 + l.length = k + j + (l.length + 1) by omega]
theorem fill_rows {s : Nat} : ∀ (vs : List Value) (k : Nat) (cs : List Value), allSz s vs → (k + vs.length) * s = cs.length → Instr.fill (fun i => some (i * s, s)) cs.toArray (numbered k vs) = some (cs.take (k * s) ++ catV vs).toArray
  | [], k, cs, _, h => by
    simp only [numbered, Instr.fill, catV, List.append_nil]
    rw [List.take_of_length_le (by simp only [List.length_nil, Nat.add_zero] at h; omega)]
  | v :: vs, k, cs, hv, h => by
    simp only [List.length_cons] at h
    have hvl : v.cells.toList.length = s := by rw [Array.length_toList]; exact hv.1
    have hle : (k + 1) * s ≤ cs.length := by rw [← h]; exact Nat.mul_le_mul_right _ (by omega)
    rw [Nat.succ_mul] at hle
    simp only [numbered, Instr.fill, hv.1, ne_eq, not_true_eq_false, decide_false, Bool.false_or, gt_iff_lt, List.size_toArray]
    rw [if_neg (by simp; omega)]
    have := setCells v.cells.toList cs (k * s) 0 (by rw [hvl]; omega)
    rw [← Array.foldl_toList, Array.toList_zipIdx]
    rw [this, fill_rows vs (k + 1) _ hv.2 (by rw [List.length_append, List.length_append, List.length_take, List.length_drop, hvl]; have : k + 1 + vs.length = k + (vs.length + 1) := by omega
                                              show (k + 1 + vs.length) * s = _; rw [this, h]; omega)]
    congr 2
    rw [catV, Nat.add_zero, ← List.append_assoc]
    congr 1
    rw [Nat.succ_mul, List.take_append_of_le_length (by rw [List.length_append, List.length_take, hvl]; show _ ≤ min _ cs.length + s; omega)]
    rw [List.take_of_length_le (by rw [List.length_append, List.length_take, hvl]; show min _ cs.length + s ≤ _; omega)]
    rw [Nat.add_zero]
theorem RL.buildSliceN {ty m} {xs : List (Nat × Operand)} {vs : List Value} {e s by_} (ht : sliceOf P ty = some (e, s, by_)) (z : Value) (hz : zeroOf P e = some z) (hx : evp F xs = some (numbered 0 vs)) (hv : allSz s vs) (hm : m = vs.length) (hs : Nat.blt 0 s = true) (hm' : Nat.ble (m * s) 16777216 = true) (hm0 : Nat.beq (m * s) 0 = false)
    (hg : gsat ops F g = some true) (hd : inB d n = true)
    (h : ∀ b w', b = w.heap.size → w'.heap.size = b + 1 → Has w' b (catV vs) e → Sub w w' → RL P n ops rest (upd F d (.slice (some ⟨b, 0, none⟩) m m)) w' p) : RL P n ops (⟨d, .buildSlice ty m xs.toArray, t, pos, af, g⟩ :: rest) F w p := by
  refine RL.buildSlice (xs := xs) (vs := numbered 0 vs) (cs := (catV vs).toArray) ht hz hx hm' hm0 ?_ hg hd (fun b w' e1 e2 e3 e4 => h b w' e1 e2 e3 e4)
  have := fill_rows (s := s) vs 0 ((Array.range (m * s)).map (z.cells[· % z.cells.size]!)).toList hv (by rw [hm]; simp)
  rw [Nat.zero_mul, List.take_zero, List.nil_append, Array.toArray_toList] at this
  exact this

def ob : Value → Option Nat := Value.ownBlock
structure Ows (base : Nat) (w : World) (e : TypeId) (sz : Nat) (v : Value) (rows : List (List Value)) : Prop where
  own : w.ownsRow base e sz v rows.length rows.flatten
  len : ∀ r ∈ rows, r.length = sz
theorem Ows.nil (base : Nat) (w : World) (e : TypeId) (sz : Nat) : Ows base w e sz (.slice none 0 0) [] := ⟨⟨by simp, .inl ⟨rfl, rfl⟩⟩, by simp⟩
theorem Ows.form {base w e sz v rows} (h : Ows base w e sz v rows) : ∃ a c, v = .slice a rows.length c ∧ rows.length ≤ c := by
  rcases h.own.2 with ⟨rfl, h0⟩ | ⟨g, cap, cur, rfl, _, _, hc, _⟩
  · exact ⟨none, 0, by rw [h0], by omega⟩
  · exact ⟨_, _, rfl, hc⟩
theorem Ows.step {base w e sz v rows w'} {N : Nat → Prop} (h : Ows base w e sz v rows) (a : Agr N w w') (hn : ∀ k, ob v = some k → ¬ N k) : Ows base w' e sz v rows := by
  refine ⟨⟨h.own.1, ?_⟩, h.len⟩
  rcases h.own.2 with h | ⟨g, cap, cur, rfl, hb, hg, hr⟩
  · exact .inl h
  · refine .inr ⟨g, cap, cur, rfl, hb, ?_, hr⟩
    rw [a.block g ?_ (hn g rfl), hg]
    rcases Nat.lt_or_ge g w.heap.size with q | q
    · exact q
    · rw [Array.getElem?_eq_none q] at hg; cases hg
theorem Ows.sub {base w e sz v rows w'} (h : Ows base w e sz v rows) (s : Sub w w') : Ows base w' e sz v rows := h.step (N := fun _ => False) s.agr (fun _ _ => id)
theorem Ows.upd {base w e sz v rows w' b} (h : Ows base w e sz v rows) (a : Agr (· = b) w w') (hb : b < base) : Ows base w' e sz v rows := h.step a (by
  rintro k hk rfl
  rcases h.own.2 with ⟨rfl, _⟩ | ⟨g, cap, cur, rfl, hb', _⟩
  · simp [ob, Value.ownBlock] at hk
  · simp [ob, Value.ownBlock] at hk; omega)
theorem Ows.sl {base w e sz a m c rows} (h : Ows base w e sz (.slice a m c) rows) : Sl w a sz rows ∧ m = rows.length := by
  rcases h.own.2 with ⟨hv, h0⟩ | ⟨g, cap, cur, hv, hb, hg, hc, hm, hcs, ht⟩
  · cases hv
    have : rows = [] := List.eq_nil_of_length_eq_zero h0
    subst this
    exact ⟨Sl.nil _ _ _, rfl⟩
  · cases hv
    have hh : Has w g (rows.flatten ++ cur.toList.drop (rows.length * sz)) e := by
      unfold Has; rw [hg, ← ht, List.take_append_drop]
    exact ⟨hh.sl h.len, rfl⟩
theorem Ows.imm {N : Nat → Prop} {base w e sz a m c rows} (h : Ows base w e sz (.slice a m c) rows) (hN : ∀ k, N k → k < base) : Imm N (fun w => Sl w a sz rows) w := fun w' ag => by
  refine (Ows.sl (h.step ag ?_)).1
  intro k hk hNk
  rcases h.own.2 with ⟨hv, h0⟩ | ⟨g, cap, cur, hv, hb, _⟩
  · cases hv; simp [ob, Value.ownBlock] at hk
  · cases hv; simp [ob, Value.ownBlock] at hk; subst hk; have := hN _ hNk; omega

theorem plain_one {v : Value} (h : plainV v = true) : v.oneCell' = true := by cases v <;> simp_all [plainV, Value.oneCell']

theorem RL.append {ty y x v ax m c e s by_ z base rows news} (ht : sliceOf P ty = some (e, s, by_)) (hz : zeroOf P e = some z) (hzs : z.cells.size = s) (hs : Nat.blt 0 s = true) (hy : XL.ev F y = some v) (hx : XL.ev F x = some (.slice (some ax) m c))
    (hown : Ows base w e s v rows) (hnew : Sl w (some ax) s news) (hm : m = news.length) (hnl : ∀ r ∈ news, r.length = s) (hp : news.all (fun r => r.all plainV) = true) (hlen : (rows.length + m) * by_ ≤ 140737488355328) (hlen' : rows.length + m ≤ 140737488355328) (hbase : base ≤ w.heap.size) (hg : gsat ops F g = some true) (hd : inB d n = true)
    (h : ∀ v' w', Ows base w' e s v' (rows ++ news) → Agr (fun k => ob v = some k) w w' → (ob v' = ob v ∨ ∃ b, ob v' = some b ∧ w.heap.size ≤ b) → RL P n ops rest (upd F d v') w' p) : RL P n ops (⟨d, .call ⟨.builtin .append, #[y, x], #[ty, ty]⟩, t, pos, af, g⟩ :: rest) F w p := by
  have hs' : 0 < s := by simpa using hs
  obtain ⟨h1, i, h2, h3, h4⟩ := sliceOf_spec ht
  obtain ⟨i', hi', hzz⟩ := zeroOf_spec hz
  rw [h2] at hi'; cases hi'
  subst hm
  have hcell : ∀ j u, news.flatten[j]? = some u → w.cell? (ax.add j) = some u := by
    intro j u hj
    have hjl : j < news.length * s := by
      rw [← flat_len news hnl]
      rcases Nat.lt_or_ge j news.flatten.length with q | q
      · exact q
      · rw [List.getElem?_eq_none q] at hj; cases hj
    have hd' : j / s < news.length := (Nat.div_lt_iff_lt_mul hs').2 hjl
    have hmod : j % s < s := Nat.mod_lt _ hs'
    have ej : j = (j / s) * s + j % s := by rw [Nat.mul_comm]; exact (Nat.div_add_mod j s).symm
    obtain ⟨r, hr⟩ : ∃ r, news[j / s]? = some r := ⟨_, List.getElem?_eq_getElem hd'⟩
    have hf := flat_get news hnl (j / s) (j % s) r hr hmod
    rw [← ej, hj] at hf
    have hc := hnew.row (j / s) r hr (j % s) u hf.symm
    simp only [Option.getD_some] at hc
    rw [← hc]
    congr 1
    rw [ej]
    obtain ⟨bb, oo, sp⟩ := ax
    unfold Addr.add
    by_cases q1 : (j / s) * s = 0
    · rw [← ej]
      by_cases q2 : j % s = 0
      · rw [if_pos (by omega), if_pos q1, if_pos q2]
      · rw [if_neg (by omega), if_pos q1, if_neg q2]; simp only; congr 2; omega
    · rw [← ej]
      by_cases q2 : j % s = 0
      · rw [if_neg (by omega), if_neg q1, if_pos q2]; congr 1; omega
      · rw [if_neg (by omega), if_neg q1, if_neg q2]; simp only; congr 1; omega
  have hone : ∀ u ∈ news.flatten, u.oneCell' = true := by
    intro u hu
    obtain ⟨r, hr, hur⟩ := List.mem_flatten.1 hu
    exact plain_one (List.all_eq_true.1 (List.all_eq_true.1 hp r hr) u hur)
  have fin : ∀ v' w', (Builtin.append_ #[ty, ty] t #[v, .slice (some ax) news.length c]).run P w = .ok v' w' → Ows base w' e s v' (rows ++ news) → Agr (fun k => ob v = some k) w w' → (ob v' = ob v ∨ ∃ b, ob v' = some b ∧ w.heap.size ≤ b) →
      RL P n ops (⟨d, .call ⟨.builtin .append, #[y, x], #[ty, ty]⟩, t, pos, af, g⟩ :: rest) F w p := by
    intro v' w' hr ho ha hob
    refine RL.on hg hd (v := v') (w' := w') (fun ρ hρ => ?_) (h v' w' ho ha hob)
    simp only [execOp, resolve, hρ y _ hy, hρ x _ hx, bind, Sem.bind, pure, invoke, builtin, List.map_toArray, List.map_cons, List.map_nil]
    have := run_bind (P := P) (Builtin.append_ #[ty, ty] t #[v, .slice (some ax) news.length c]) (fun v => (Sem.pure (Next.value v) : Sem Next)) w
    rw [hr] at this
    exact this
  have hfl : (rows ++ news).flatten = rows.flatten ++ news.flatten := List.flatten_append
  have hrl : (rows ++ news).length = rows.length + news.length := List.length_append
  have hrl' : ∀ r ∈ rows ++ news, r.length = s := fun r hr => (List.mem_append.1 hr).elim (hown.len r) (hnl r)
  have hfn : news.flatten.length = news.length * s := flat_len news hnl
  have hfo : rows.flatten.length = rows.length * s := flat_len rows hown.len
  have hml : rows.length + news.length ≤ maxLen := by unfold maxLen; omega
  -- in a new block
  have grown : ∀ (old : Nat), old < rows.length + news.length → ∀ w0 : World, w0 = w.drew.alloc (.cells (rows.flatten.toArray ++ news.flatten.toArray ++ Builtin.zeroCells z.cells (grownCap w (rows.length + news.length) old e - (rows.length + news.length))) e) →
      Ows base w0 e s (.slice (some ⟨w.heap.size, 0, none⟩) (rows.length + news.length) (grownCap w (rows.length + news.length) old e)) (rows ++ news) ∧ Agr (fun k => ob v = some k) w w0 := by
    intro old ho w0 hw0
    subst hw0
    have hge := grownCap_ge w (rows.length + news.length) old e
    have hcm := grownCap_le_maxLen w (rows.length + news.length) old e hml
    refine ⟨⟨⟨by rw [hfl, hrl, List.length_append, hfo, hfn, Nat.add_mul], .inr ⟨w.heap.size, _, _, by rw [hrl], hbase, heap_alloc_new w.drew _, by rw [hrl]; exact hge, hcm, ?_, ?_⟩⟩, hrl'⟩, ⟨rfl, rfl, rfl, by simp, fun k hk _ => heap_alloc_old' w.drew _ hk⟩⟩
    · simp only [Array.size_append, List.size_toArray, size_zeroCells, hzs, hfo, hfn, ← Nat.add_mul]
      congr 1
      omega
    · simp only [Array.toList_append, List.append_assoc]
      rw [hrl, hfl, ← List.append_assoc, show (rows.length + news.length) * s = (rows.flatten ++ news.flatten).length by rw [List.length_append, hfo, hfn, Nat.add_mul]]
      exact List.take_left
  rcases hown.own.2 with ⟨rfl, h0⟩ | ⟨gb, cap, cur, rfl, hbg, hgh, hnc, hcm, hcs, htake⟩
  · have hx0 : rows = [] := List.eq_nil_of_length_eq_zero h0
    subst hx0
    by_cases hm0 : news.length = 0
    · have hn : news = [] := List.eq_nil_of_length_eq_zero hm0
      subst hn
      refine fin (.slice none 0 0) w ?_ (Ows.nil _ _ _ _) (Agr.refl _ _) (.inl rfl)
      simp [Builtin.append_, Go.run_underlying h1, sizeOf, typeInfo, h2, Builtin.lenOf, Builtin.firstCells, loadCells, loadCellsFrom]
    · have hr := run_append_nil (P := P) w ty t e i z h1 h2 hzz ax news.length c news.flatten (by rw [hfn, h3]) hcell (by omega) (by omega) (by rw [h4]; simp only [List.length_nil, Nat.zero_add] at hlen; omega)
      have hgr := grown 0 (by simp; omega) _ rfl
      simp only [List.length_nil, Nat.zero_add, List.flatten_nil, Array.empty_append, List.nil_append] at hgr
      exact fin _ _ hr hgr.1 hgr.2 (.inr ⟨_, rfl, Nat.le_refl _⟩)
  · by_cases hroom : rows.length + news.length ≤ cap
    · have hfit : rows.length * i.size + news.flatten.length ≤ cur.size := by rw [hfn, hcs, h3, ← Nat.add_mul]; exact Nat.mul_le_mul_right _ hroom
      have hr := run_append_room (P := P) w ty t e i h1 h2 gb rows.length cap cur hgh ax news.length c news.flatten (by rw [hfn, h3]) hcell hone hroom hfit
      refine fin _ _ hr ⟨⟨by rw [hfl, hrl, List.length_append, hfo, hfn, Nat.add_mul], .inr ⟨gb, cap, _, by rw [hrl], hbg, setRow_heap w gb cur _ e _ hgh, by rw [hrl]; exact hroom, hcm, ?_, ?_⟩⟩, hrl'⟩
        ⟨rfl, rfl, rfl, by simp, fun k _ hk => setRow_other w gb k _ (fun e => hk (by simp [ob, Value.ownBlock, e]))⟩ (.inl rfl)
      · simp only [List.size_toArray, List.length_append, List.length_take, List.length_drop, Array.length_toList]
        omega
      · rw [h3, htake, hrl, hfl, show (rows.length + news.length) * s = (rows.flatten ++ news.flatten).length by rw [List.length_append, hfo, hfn, Nat.add_mul]]
        exact List.take_left
    · have holds : ∀ j u, rows.flatten[j]? = some u → w.cell? ((⟨gb, 0, none⟩ : Addr).add j) = some u := hown.own.cells (g := gb) rfl
      have hr := run_append_grow (P := P) w ty t e i z h1 h2 hzz ⟨gb, 0, none⟩ rows.length cap rows.flatten (by rw [hfo, h3]) holds ax news.length c news.flatten (by rw [hfn, h3]) hcell (by omega) (by omega) (growslice_fits (by omega) (by rw [h4]; exact hlen))
      have hgr := grown cap (by omega) _ rfl
      exact fin _ _ hr hgr.1 hgr.2 (.inr ⟨_, rfl, Nat.le_refl _⟩)
end
def agreeE (F : List (Nat × Value)) : List (Nat × Value) → Prop
  | [] => True
  | (k, v) :: r => look F k = some v ∧ agreeE F r
theorem keep_of {F : List (Nat × Value)} : ∀ {G : List (Nat × Value)}, agreeE F G → ∀ t v, look G t = some v → look F t = some v
  | [], _, t, v, h => by simp [look] at h
  | (k, u) :: r, ⟨h1, h2⟩, t, v, h => by
    rw [look_cons] at h
    by_cases e : k = t
    · subst e; simp at h; subst h; exact h1
    · rw [if_neg e] at h; exact keep_of h2 t v h

theorem wrap_i64 {x : Int} (h : -9223372036854775808 ≤ x ∧ x ≤ 9223372036854775807) : IntKind.i64.wrap x = x := by rw [IntKind.wrap_i64]; omega
theorem wi64 {x y : Int} (h : x = y) (hb : -9223372036854775808 ≤ y ∧ y ≤ 9223372036854775807) : Value.int .i64 (IntKind.i64.wrap x) = .int .i64 y := by rw [h, wrap_i64 hb]
theorem wrap_u64 {x : Int} (h : 0 ≤ x ∧ x ≤ 18446744073709551615) : IntKind.u64.wrap x = x := by rw [IntKind.wrap_u64]; omega
theorem wu64 {x y : Int} (h : x = y) (hb : 0 ≤ y ∧ y ≤ 18446744073709551615) : Value.int .u64 (IntKind.u64.wrap x) = .int .u64 y := by rw [h, wrap_u64 hb]

def Val (x : Value) (w : World) : Value → World → Prop := fun v w' => v = x ∧ Sub w w'

section
variable {P : Program} {n : Cx} {F : (List (Nat × Value))} {w : World} {p : Post} {ops : Array Oper} {rest : List Oper} {d : Option Tmp} {o : Op} {t : TypeId} {pos : String} {af : Array Edge} {g : Option (Nat × Bool)}
theorem EvOp.as {v v'} (h : EvOp P F o w v) (e : v = v') : EvOp P F o w v' := e ▸ h
theorem RC.unroll {c} (k : Nat) (h : RC P n c F w (p.to (Code.rounds P c p.q k))) (hR : n.round = none := by rfl) : RC P n (.loop c) F w p := fun a ka => by
  rw [cwp_none hR]
  refine wp_loop_rounds (k + 1) ?_
  have := h a ka
  rw [cwp_none hR] at this
  rw [rounds_succ, Post.q_to]
  exact this
theorem RC.again {c : Code} {q : Post} {k : Nat} (h : RC P n c F w (q.to (Code.rounds P c q.q k))) (hR : n.round = none := by rfl) : ∀ a, Knows n F a → (q.to (Code.rounds P c q.q (k + 1))).nrm a w := fun a ka => by
  show Code.rounds P c q.q (k + 1) a w
  have := h a ka
  rw [cwp_none hR] at this
  rw [rounds_succ, Post.q_to]
  exact this
end
def fitK : Option IntKind → Value → Bool
  | some k, .int k' _ => decide (k = k')
  | none, .bool _ => true
  | _, _ => false
def fitsK : List (Option IntKind) → List Value → Bool
  | [], [] => true
  | k :: ks, v :: vs => fitK k v && fitsK ks vs
  | _, _ => false
def eq1 : Value → Value → Bool
  | .int _ a, .int _ b => a == b
  | .bool a, .bool b => a == b
  | _, _ => false
def eqL : List Value → List Value → Bool
  | [], [] => true
  | a :: xs, b :: ys => eq1 a b && eqL xs ys
  | _, _ => false

def fieldsK (P : Program) (k : TypeId → Option (List (Option IntKind))) : Nat → List Field → Option (List (Option IntKind))
  | _, [] => some []
  | o, f :: fs =>
    if f.name = "_" ∨ f.offset ≠ o then none
    else match k f.type with
      | none => none
      | some l => match shapeOf P f.type with
        | none => none
        | some (_, s) => if s ≠ l.length then none else match fieldsK P k (o + s) fs with | none => none | some r => some (l ++ r)
def flatK (P : Program) : Nat → TypeId → Option (List (Option IntKind))
  | 0, _ => none
  | d + 1, t =>
    match P.underlying t with
    | some (.int k) => some [some k]
    | some .bool => some [none]
    | some (.struct fs) => if P.stoodInHeld t then none else fieldsK P (flatK P d) 0 fs.toList
    | some (.array n e) => match flatK P d e with
      | none => none
      | some l => match shapeOf P e with
        | none => none
        | some (_, s) => if s ≠ l.length then none else some (List.replicate n l).flatten
    | _ => none

theorem fitsK_len : ∀ {ks vs}, fitsK ks vs = true → ks.length = vs.length
  | [], [], _ => rfl
  | k :: ks, v :: vs, h => by simp only [fitsK, Bool.and_eq_true] at h; simp [fitsK_len h.2]
  | [], _ :: _, h => by simp [fitsK] at h
  | _ :: _, [], h => by simp [fitsK] at h
theorem fits1 {k xs} (h : fitsK [k] xs = true) : ∃ v, xs = [v] ∧ fitK k v = true := by
  cases xs with
  | nil => simp [fitsK] at h
  | cons v r => cases r with
    | nil => exact ⟨v, rfl, by simpa [fitsK] using h⟩
    | cons a b => simp [fitsK] at h
theorem fits_int {k xs} (h : fitsK [some k] xs = true) : ∃ x, xs = [.int k x] := by
  obtain ⟨v, rfl, h2⟩ := fits1 h
  clear h
  cases v with
  | int k' x => simp [fitK] at h2; subst h2; exact ⟨_, rfl⟩
  | _ => exact absurd h2 (by simp [fitK])
theorem fits_bool {xs} (h : fitsK [none] xs = true) : ∃ x, xs = [.bool x] := by
  obtain ⟨v, rfl, h2⟩ := fits1 h
  clear h
  cases v with
  | bool b => exact ⟨_, rfl⟩
  | _ => exact absurd h2 (by simp [fitK])
theorem fitsK_app : ∀ {ks ks' vs}, fitsK (ks ++ ks') vs = true → fitsK ks (vs.take ks.length) = true ∧ fitsK ks' (vs.drop ks.length) = true
  | [], ks', vs, h => by simpa [fitsK] using h
  | k :: ks, ks', [], h => by simp [fitsK] at h
  | k :: ks, ks', v :: vs, h => by
    simp only [List.cons_append, fitsK, Bool.and_eq_true] at h
    have := fitsK_app h.2
    simp [fitsK, h.1, this]
theorem eqL_app : ∀ (n : Nat) {xs ys}, xs.length = ys.length → eqL xs ys = (eqL (xs.take n) (ys.take n) && eqL (xs.drop n) (ys.drop n))
  | 0, xs, ys, _ => by simp [eqL]
  | n + 1, [], [], _ => by simp [eqL]
  | n + 1, a :: xs, b :: ys, h => by
    simp only [List.take_succ_cons, List.drop_succ_cons, eqL]
    rw [eqL_app n (by simpa using h), Bool.and_assoc]
  | n + 1, [], _ :: _, h => by simp at h
  | n + 1, _ :: _, [], h => by simp at h

def valOf (agg : Bool) (cs : List Value) : Value := if agg then .agg cs.toArray else cs.headD undef

section
variable {P : Program} {w : World}
theorem run_part {t b s} (hs : shapeOf P t = some (b, s)) (cs : List Value) (o : Nat) (h : o + s ≤ cs.length) (h1 : b = false → s = 1) : (part t cs.toArray o).run P w = .ok (valOf b ((cs.drop o).take s)) w := by
  obtain ⟨d, i, hd, hi, hb, hz⟩ := shapeOf_spec hs
  rw [part, run_isAgg hd, hb]
  cases b with
  | true =>
    simp only [if_true]
    rw [run_sizeOf hi, hz]
    simp only [pure, Sem.run, valOf, if_true]
    congr 2
    apply Array.ext'
    simp [List.take_drop]
  | false =>
    have := h1 rfl
    subst this
    have hlt : o < cs.length := by omega
    simp only [Bool.false_eq_true, if_false, List.getElem?_toArray, List.getElem?_eq_getElem hlt, valOf]
    rw [List.drop_eq_getElem_cons hlt]
    rfl

theorem flatK_one {k t l s} (h : flatK P k t = some l) (hs : shapeOf P t = some (false, s)) (hl : s = l.length) : s = 1 := by
  obtain ⟨de, i, hd, hi, hbb, hz⟩ := shapeOf_spec hs
  cases k with
  | zero => simp [flatK] at h
  | succ k =>
    rw [flatK, hd] at h
    cases de with
    | int kd => simp at h; subst h; simpa using hl
    | bool => simp at h; subst h; simpa using hl
    | struct fs => cases hbb
    | array n e => cases hbb
    | _ => simp at h
def EqAt (P : Program) (w : World) (k d : Nat) : Prop :=
  ∀ (t : TypeId) (ks : List (Option IntKind)) (b : Bool) (s : Nat) (xs ys : List Value), flatK P k t = some ks → shapeOf P t = some (b, s) → s = ks.length → fitsK ks xs = true → fitsK ks ys = true →
    (Op.equalIn (d + k) t (valOf b xs) (valOf b ys)).run P w = .ok (eqL xs ys) w
theorem run_fields {k d : Nat} (IH : EqAt P w k d) (X Y : List Value) : ∀ (fs : List Field) (o : Nat) (ks : List (Option IntKind)), fieldsK P (flatK P k) o fs = some ks → fitsK ks (X.drop o) = true → fitsK ks (Y.drop o) = true →
    (forIn fs ((none, ()) : Option Bool × Unit) (fun f __s =>
            if f.name ≠ "_" then
              (part f.type X.toArray f.offset).bind fun a =>
                (part f.type Y.toArray f.offset).bind fun b =>
                  (Op.equalIn (d + k) f.type a b).bind fun r =>
                    if (!r) = true then pure (ForInStep.done (some false, ()))
                    else pure (ForInStep.yield (none, ()))
            else pure (ForInStep.yield (none, ()))) : Sem _).run P w = .ok (if eqL (X.drop o) (Y.drop o) then (none, ()) else (some false, ())) w
  | [], o, ks, h, hx, hy => by
    simp only [fieldsK, Option.some.injEq] at h
    subst h
    have h1 := fitsK_len hx
    have h2 := fitsK_len hy
    have e1 : X.drop o = [] := List.eq_nil_of_length_eq_zero h1.symm
    have e2 : Y.drop o = [] := List.eq_nil_of_length_eq_zero h2.symm
    rw [e1, e2]
    rfl
  | f :: fs, o, ks, h, hx, hy => by
    simp only [fieldsK] at h
    split at h
    · cases h
    · rename_i hno
      have hname : f.name ≠ "_" := fun e => hno (.inl e)
      have hoff : f.offset = o := Decidable.byContradiction fun e => hno (.inr e)
      split at h
      · cases h
      · rename_i l hl
        split at h
        · cases h
        · rename_i b s hs
          split at h
          · cases h
          · rename_i hsl
            have hsl' : s = l.length := Decidable.byContradiction hsl
            split at h
            · cases h
            · rename_i r hr
              cases h
              obtain ⟨hx1, hx2⟩ := fitsK_app hx
              obtain ⟨hy1, hy2⟩ := fitsK_app hy
              rw [List.drop_drop] at hx2 hy2
              have lx := fitsK_len hx
              have ly := fitsK_len hy
              simp only [List.length_append, List.length_drop] at lx ly
              have one : b = false → s = 1 := fun e => by subst e; exact flatK_one hl hs hsl'
              have px : o + s ≤ X.length ∨ s = 0 := by omega
              have ih := run_fields IH X Y fs (o + s) r hr (by rw [hsl']; exact hx2) (by rw [hsl']; exact hy2)
              rw [List.forIn_cons, run_bind]
              have hbx : (part f.type X.toArray f.offset).run P w = .ok (valOf b ((X.drop o).take s)) w := by
                rw [hoff]
                by_cases e0 : s = 0
                · cases b with
                  | false => have := one rfl; omega
                  | true =>
                    obtain ⟨dd, i', g1, g2, g3, g4⟩ := shapeOf_spec hs
                    rw [part, run_isAgg g1, g3]
                    simp only [if_true]
                    rw [run_sizeOf g2, g4, e0]
                    simp only [pure, Sem.run, valOf, if_true]
                    congr 2
                    apply Array.ext'
                    simp
                · exact run_part hs X o (by omega) one
              have hby : (part f.type Y.toArray f.offset).run P w = .ok (valOf b ((Y.drop o).take s)) w := by
                rw [hoff]
                by_cases e0 : s = 0
                · cases b with
                  | false => have := one rfl; omega
                  | true =>
                    obtain ⟨dd, i', g1, g2, g3, g4⟩ := shapeOf_spec hs
                    rw [part, run_isAgg g1, g3]
                    simp only [if_true]
                    rw [run_sizeOf g2, g4, e0]
                    simp only [pure, Sem.run, valOf, if_true]
                    congr 2
                    apply Array.ext'
                    simp
                · exact run_part hs Y o (by omega) one
              have hq := IH f.type l b s ((X.drop o).take s) ((Y.drop o).take s) hl hs hsl' (by rw [hsl']; exact hx1) (by rw [hsl']; exact hy1)
              have hlen : (X.drop o).length = (Y.drop o).length := by rw [← fitsK_len hx, ← fitsK_len hy]
              rw [eqL_app s hlen, List.drop_drop, List.drop_drop]
              simp only [ne_eq, hname, not_false_eq_true, if_true]
              have hbody : ((part f.type X.toArray f.offset).bind fun a => (part f.type Y.toArray f.offset).bind fun b => (Op.equalIn (d + k) f.type a b).bind fun r => if (!r) = true then (pure (ForInStep.done ((some false, ()) : Option Bool × Unit)) : Sem _) else pure (ForInStep.yield (none, ()))).run P w
                  = .ok (if eqL ((X.drop o).take s) ((Y.drop o).take s) then ForInStep.yield (none, ()) else ForInStep.done (some false, ())) w := by
                have e1 := run_bind (P := P) (part f.type X.toArray f.offset) (fun a => (part f.type Y.toArray f.offset).bind fun b => (Op.equalIn (d + k) f.type a b).bind fun r => if (!r) = true then (pure (ForInStep.done ((some false, ()) : Option Bool × Unit)) : Sem _) else pure (ForInStep.yield (none, ()))) w
                rw [hbx] at e1
                have e2 := run_bind (P := P) (part f.type Y.toArray f.offset) (fun b' => (Op.equalIn (d + k) f.type (valOf b ((X.drop o).take s)) b').bind fun r => if (!r) = true then (pure (ForInStep.done ((some false, ()) : Option Bool × Unit)) : Sem _) else pure (ForInStep.yield (none, ()))) w
                rw [hby] at e2
                have e3 := run_bind (P := P) (Op.equalIn (d + k) f.type (valOf b ((X.drop o).take s)) (valOf b ((Y.drop o).take s))) (fun r => if (!r) = true then (pure (ForInStep.done ((some false, ()) : Option Bool × Unit)) : Sem _) else pure (ForInStep.yield (none, ()))) w
                rw [hq] at e3
                refine e1.trans (e2.trans (e3.trans ?_))
                cases eqL ((X.drop o).take s) ((Y.drop o).take s) <;> rfl
              rw [hbody]
              cases hc : eqL ((X.drop o).take s) ((Y.drop o).take s) with
              | true => simp only [if_true, Bool.true_and]; exact ih
              | false => simp [Sem.run, pure]
theorem fits_split {l : List (Option IntKind)} {n : Nat} {X : List Value} (h : fitsK (List.replicate (n + 1) l).flatten X = true) : fitsK l (X.take l.length) = true ∧ fitsK (List.replicate n l).flatten (X.drop l.length) = true := by
  rw [List.replicate_succ, List.flatten_cons] at h
  exact fitsK_app h
theorem run_elems {k d : Nat} (IH : EqAt P w k d) {e : TypeId} {l : List (Option IntKind)} {b : Bool} {s : Nat} (hl : flatK P k e = some l) (hs : shapeOf P e = some (b, s)) (hsl : s = l.length) (one : b = false → s = 1) (X Y : List Value) :
    ∀ (n i : Nat), fitsK (List.replicate n l).flatten (X.drop (i * s)) = true → fitsK (List.replicate n l).flatten (Y.drop (i * s)) = true →
    (forIn (List.range' i n 1) ((none, ()) : Option Bool × Unit) (fun i __s => do
              let a ← part e X.toArray (i * s)
              let b ← part e Y.toArray (i * s)
              let r ← Op.equalIn (d + k) e a b
              if (!r) = true then pure (ForInStep.done (some false, ())) else pure (ForInStep.yield (none, ()))) : Sem _).run P w = .ok (if eqL (X.drop (i * s)) (Y.drop (i * s)) then (none, ()) else (some false, ())) w
  | 0, i, hx, hy => by
    have e1 : X.drop (i * s) = [] := List.eq_nil_of_length_eq_zero (by rw [← fitsK_len hx]; rfl)
    have e2 : Y.drop (i * s) = [] := List.eq_nil_of_length_eq_zero (by rw [← fitsK_len hy]; rfl)
    rw [e1, e2]
    rfl
  | n + 1, i, hx, hy => by
    obtain ⟨hx1, hx2⟩ := fits_split hx
    obtain ⟨hy1, hy2⟩ := fits_split hy
    rw [← hsl] at hx1 hx2 hy1 hy2
    rw [List.drop_drop] at hx2 hy2
    have es : i * s + s = (i + 1) * s := (Nat.succ_mul _ _).symm
    rw [es] at hx2 hy2
    have ih := run_elems IH hl hs hsl one X Y n (i + 1) hx2 hy2
    have lx := fitsK_len hx1
    have ly := fitsK_len hy1
    simp only [List.length_take, List.length_drop] at lx ly
    have hpart : ∀ Z : List Value, fitsK l ((Z.drop (i * s)).take s) = true → (part e Z.toArray (i * s)).run P w = .ok (valOf b ((Z.drop (i * s)).take s)) w := by
      intro Z hz
      have lz := fitsK_len hz
      simp only [List.length_take, List.length_drop] at lz
      by_cases e0 : s = 0
      · cases b with
        | false => have := one rfl; omega
        | true =>
          obtain ⟨dd, i', g1, g2, g3, g4⟩ := shapeOf_spec hs
          rw [part, run_isAgg g1, g3]
          simp only [if_true]
          rw [run_sizeOf g2, g4, e0]
          simp only [pure, Sem.run, valOf, if_true]
          congr 2
          apply Array.ext'
          simp
      · exact run_part hs Z (i * s) (by omega) one
    rw [List.range'_succ, List.forIn_cons, run_bind, run_bind, hpart X hx1]
    simp only []
    rw [run_bind, hpart Y hy1]
    simp only []
    rw [run_bind, IH e l b s _ _ hl hs hsl hx1 hy1]
    have hlen : (X.drop (i * s)).length = (Y.drop (i * s)).length := by rw [← fitsK_len hx, ← fitsK_len hy]
    rw [eqL_app s hlen, List.drop_drop, List.drop_drop, es]
    cases hc : eqL ((X.drop (i * s)).take s) ((Y.drop (i * s)).take s) with
    | true => simp only [Bool.not_true, Bool.false_eq_true, if_false, Bool.true_and, pure, Sem.run]; exact ih
    | false => simp [Sem.run, pure]
end
section
variable {P : Program} {w : World}
theorem run_equalIn : ∀ (k d : Nat), EqAt P w k d
  | 0, d => fun t ks b s xs ys h _ _ _ _ => by simp [flatK] at h
  | k + 1, d => fun t ks b s xs ys h hs hl ha hb => by
    have ih := run_equalIn k d
    obtain ⟨de, i, hd, hi, hbb, hz⟩ := shapeOf_spec hs
    rw [flatK, hd] at h
    rw [show d + (k + 1) = (d + k) + 1 by omega, Op.equalIn, run_underlying hd]
    cases de with
    | int kd =>
      simp only [Option.some.injEq] at h
      subst h
      have hb' : b = false := by rw [← hbb]; rfl
      subst hb'
      obtain ⟨x, rfl⟩ := fits_int ha
      obtain ⟨y, rfl⟩ := fits_int hb
      simp [valOf, eqL, eq1, pure, Sem.run]
    | bool =>
      simp only [Option.some.injEq] at h
      subst h
      have hb' : b = false := by rw [← hbb]; rfl
      subst hb'
      obtain ⟨x, rfl⟩ := fits_bool ha
      obtain ⟨y, rfl⟩ := fits_bool hb
      simp [valOf, eqL, eq1, pure, Sem.run]
    | struct fs =>
      have hb' : b = true := by rw [← hbb]; rfl
      subst hb'
      simp only [] at h
      split at h
      · cases h
      · rename_i hst
        have hst' : P.stoodInHeld t = false := by simpa using hst
        simp only [valOf, if_true, bind, Sem.bind, program, Sem.run, hst', Bool.false_eq_true, if_false]
        rw [← Array.forIn_toList]
        have := run_fields (ih) xs ys fs.toList 0 ks h (by simpa using ha) (by simpa using hb)
        simp only [List.drop_zero] at this
        refine (run_bind (P := P) _ _ w).trans ?_
        generalize hg : (forIn fs.toList ((none, ()) : Option Bool × Unit) _ : Sem _) = A
        have hA : A.run P w = .ok (if eqL xs ys then (none, ()) else (some false, ())) w := by
          rw [← hg]
          exact this
        rw [hA]
        cases eqL xs ys <;> rfl
    | array n e =>
      have hb' : b = true := by rw [← hbb]; rfl
      subst hb'
      simp only [] at h
      split at h
      · cases h
      · rename_i l hl'
        split at h
        · cases h
        · rename_i be se hse
          split at h
          · cases h
          · rename_i hsl
            have hsl' : se = l.length := Decidable.byContradiction hsl
            cases h
            obtain ⟨dd, i', g1, g2, g3, g4⟩ := shapeOf_spec hse
            simp only [valOf, if_true]
            rw [run_sizeOf g2, g4]
            have one : be = false → se = 1 := fun e' => by subst e'; exact flatK_one hl' hse hsl'
            have := run_elems ih hl' hse hsl' one xs ys n 0 (by simpa using ha) (by simpa using hb)
            simp only [Nat.zero_mul, List.drop_zero] at this
            refine (run_bind (P := P) _ _ w).trans ?_
            rw [Std.Legacy.Range.forIn_eq_forIn_range', show (Std.Legacy.Range.size [:n]) = n from by simp [Std.Legacy.Range.size]]
            generalize hg : (forIn (List.range' _ n _) ((none, ()) : Option Bool × Unit) _ : Sem _) = A
            have hA : A.run P w = .ok (if eqL xs ys then (none, ()) else (some false, ())) w := by
              rw [← hg]
              exact this
            rw [hA]
            cases eqL xs ys <;> rfl
    | _ => simp at h
theorem run_equal_flat {t ks s xs ys} (hk : flatK P 6 t = some ks) (hs : shapeOf P t = some (true, s)) (hl : s = ks.length) (ha : fitsK ks xs = true) (hb : fitsK ks ys = true) :
    (Op.equal t (.agg xs.toArray) (.agg ys.toArray)).run P w = .ok (eqL xs ys) w := run_equalIn 6 9994 t ks true s xs ys hk hs hl ha hb
end
section
variable {P : Program} {n : Cx} {F : (List (Nat × Value))} {w : World}
theorem run_eqGuard_flat {op : BinOp} {t : TypeId} {x y : Operand} {xs ys : Array Value} {w : World} (h : P.eqGuardType P.depth t = false) : (eqGuard op t x y (.agg xs) (.agg ys)).run P w = .ok () w := by
  unfold eqGuard
  cases op <;> simp [program, bind, Sem.bind, Sem.run, h, pure]
theorem EvOp.neS {x y xs ys tx ty ks s} (hk : flatK P 6 tx = some ks) (hg : P.eqGuardType P.depth tx = false) (hs : shapeOf P tx = some (true, s)) (hl : s = ks.length) (hx : XL.ev F x = some (.agg xs.toArray)) (hy : XL.ev F y = some (.agg ys.toArray)) (ha : fitsK ks xs = true) (hb : fitsK ks ys = true) :
    EvOp P F (.binOp .neq tx x y ty) w (.bool (!eqL xs ys)) := fun _ _ _ _ _ ρ hρ w' _ => by
  simp only [execOp, hρ x _ hx, hρ y _ hy]
  refine run_val _ ?_
  rw [run_bind, run_eqGuard_flat hg]
  show (Op.equal tx (.agg xs.toArray) (.agg ys.toArray) >>= fun b => (Sem.pure (Value.bool !b) : Sem Value)).run P w' = _
  rw [run_bind, run_equal_flat hk hs hl ha hb]
  rfl
end
section
variable {P : Program} {n : Cx} {F : (List (Nat × Value))} {w : World} {p : Post} {ops : Array Oper} {rest : List Oper} {d : Option Tmp} {o : Op} {t : TypeId} {pos : String} {af : Array Edge} {g : Option (Nat × Bool)}
theorem EvOp.sliceArr {ty x b a len e s} (ht : arrOf P ty = some (len, e, s)) (hx : XL.ev F x = some (.pointer (some ⟨b, a, none⟩))) :
    EvOp P F (.slice ty x none none none) w (.slice (some ⟨b, a, none⟩) len len) := fun _ _ _ _ _ ρ hρ w' _ => by
  obtain ⟨h1, j, h2, h3⟩ := arrOf_spec ht
  simp only [execOp]
  refine run_val _ ?_
  simp only [Instr.sliceAt, hρ x _ hx, Option.map_none]
  rw [run_underlying h1]
  simp only [Instr.sureAddr, Instr.sliceBounds, bind, Sem.bind, pure]
  have := run_sizeOf (P := P) (w := w') h2 (fun size => (Sem.pure (Value.slice (some (if len = 0 then (⟨b, a, none⟩ : Addr) else (⟨b, a, none⟩ : Addr).add (0 * size))) (len - 0) (len - 0)) : Sem Value))
  simp only [bind] at this
  rw [this]
  simp [Sem.run, Addr.add]
theorem EvOp.sliceArrHi {ty x hi_ b a len k i e s} (ht : arrOf P ty = some (len, e, s)) (hx : XL.ev F x = some (.pointer (some ⟨b, a, none⟩))) (hi : XL.ev F hi_ = some (.int k i)) (hb : 0 ≤ i ∧ i ≤ len) :
    EvOp P F (.slice ty x none (some hi_) none) w (.slice (some ⟨b, a, none⟩) i.toNat len) := fun _ _ _ _ _ ρ hρ w' _ => by
  obtain ⟨h1, j, h2, h3⟩ := arrOf_spec ht
  simp only [execOp]
  refine run_val _ ?_
  simp only [Instr.sliceAt, hρ x _ hx, Option.map_none, Option.map_some, hρ hi_ _ hi]
  rw [run_underlying h1]
  simp only [Instr.sureAddr, Instr.sliceBounds, Instr.sliceBound, asIntOf, bind, Sem.bind, pure, Bool.false_eq_true, if_false]
  rw [if_pos (show 0 ≤ i ∧ i ≤ (len : Int) from hb)]
  simp only [Sem.bind]
  have h6 := run_sizeOf (P := P) (w := w') h2 (fun size => (Sem.pure (Value.slice (some (if len = 0 then (⟨b, a, none⟩ : Addr) else (⟨b, a, none⟩ : Addr).add (0 * size))) (i.toNat - 0) (len - 0)) : Sem Value))
  simp only [bind] at h6
  refine h6.trans ?_
  simp [Sem.run, Addr.add]

theorem EvOp.eqNil {x a m c tx ty e s by_} (ht : sliceOf P tx = some (e, s, by_)) (hx : XL.ev F x = some (.slice a m c)) : EvOp P F (.binOp .eql tx x (.const (.slice none 0 0)) ty) w (.bool a.isNone) := fun _ _ _ _ _ ρ hρ w' _ => by
  have h0 : ρ (.const (.slice none 0 0)) = .slice none 0 0 := hρ _ _ rfl
  simp only [execOp, hρ x _ hx, h0]
  refine run_val _ ?_
  show (Op.equal tx (.slice a m c) (.slice none 0 0) >>= fun b => (Sem.pure (Value.bool b) : Sem Value)).run P w' = _
  have : (Op.equal tx (.slice a m c) (.slice none 0 0)).run P w' = .ok a.isNone w' := by
    show (Op.equalIn (9999 + 1) tx (.slice a m c) (.slice none 0 0)).run P w' = _
    rw [Op.equalIn, run_underlying (sliceOf_spec ht).1]
    cases a <;> rfl
  rw [run_bind, this]
  rfl

theorem RL.buildSlice0 {ty e s by_} (ht : sliceOf P ty = some (e, s, by_)) (hg : gsat ops F g = some true) (hd : inB d n = true)
    (h : ∀ b w', b = w.heap.size → w'.heap.size = b + 1 → Has w' b [] e → Sub w w' → RL P n ops rest (upd F d (.slice (some ⟨b, 0, none⟩) 0 0)) w' p) : RL P n ops (⟨d, .buildSlice ty 0 #[], t, pos, af, g⟩ :: rest) F w p := by
  refine RL.on hg hd (w' := wnew w (.cells #[] e)) (fun ρ hρ => ?_) (h _ _ rfl (wnew_size _ _) (wnew_has _ _ _) (wnew_sub _ _))
  obtain ⟨h1, j, h2, h3, h4⟩ := sliceOf_spec ht
  simp only [execOp]
  refine run_val _ ?_
  rw [Instr.buildSlice, run_underlying h1]
  simp only []
  rw [run_sizeOf h2, h3, if_neg (by omega), if_pos (by omega)]
  simp only [pure, bind, Sem.bind, Array.map_empty, Instr.fill, Nat.zero_mul]
  have h0 : (Array.range 0).map (fun x => (#[] : Array Value)[x % (#[] : Array Value).size]!) = #[] := by simp [Array.range_zero']
  rw [h0]
  have := run_bind (P := P) (newRow e #[]) (fun a => (Sem.pure (Value.slice (some a) 0 0) : Sem Value)) w
  rw [run_newRow] at this
  exact this
end
theorem Ows.lit0 {base : Nat} {w : World} {b e sz} (h : Has w b [] e) (hb : base ≤ b) : Ows base w e sz (.slice (some ⟨b, 0, none⟩) 0 0) [] :=
  ⟨⟨by simp, .inr ⟨b, 0, #[], rfl, hb, h, Nat.le_refl _, by decide, by simp, by simp⟩⟩, by simp⟩
theorem Ows.has {base w e sz v rows} (h : Ows base w e sz v rows) (hne : 0 < rows.length) : ∃ b cap extra, v = .slice (some ⟨b, 0, none⟩) rows.length cap ∧ base ≤ b ∧ rows.length ≤ cap ∧ cap ≤ maxLen ∧ Has w b (rows.flatten ++ extra) e ∧ (rows.flatten ++ extra).length = cap * sz := by
  rcases h.own.2 with ⟨_, h0⟩ | ⟨g, cap, cur, rfl, hb, hg, hc, hm, hcs, ht⟩
  · omega
  · refine ⟨g, cap, cur.toList.drop (rows.length * sz), rfl, hb, hc, hm, ?_, ?_⟩
    · unfold Has; rw [hg, ← ht, List.take_append_drop]
    · rw [← ht, List.take_append_drop]; simpa using hcs
theorem Ows.of_has {base w e sz b cap rows} {extra : List Value} (h : Has w b (rows.flatten ++ extra) e) (hl : ∀ r ∈ rows, r.length = sz) (hb : base ≤ b) (hc : rows.length ≤ cap) (hm : cap ≤ maxLen) (hx : (rows.flatten ++ extra).length = cap * sz) : Ows base w e sz (.slice (some ⟨b, 0, none⟩) rows.length cap) rows := by
  refine ⟨⟨flat_len rows hl, .inr ⟨b, cap, _, rfl, hb, h, hc, hm, by simpa using hx, ?_⟩⟩, hl⟩
  simp only []
  rw [← flat_len rows hl]
  exact List.take_left
theorem splice_left {xs ys : List Value} {o : Nat} {r : List Value} (h : o + r.length ≤ xs.length) : splice (xs ++ ys) o r = splice xs o r ++ ys := by
  apply List.ext_getElem?
  intro k
  rw [splice_get, List.length_append]
  by_cases hk : k < xs.length
  · rw [if_pos (by omega), List.getElem?_append_left hk, List.getElem?_append_left (l₁ := splice xs o r) (by rw [splice_length]; exact hk), splice_get, if_pos hk]
  · rw [if_neg (by omega : ¬ (o ≤ k ∧ k < o + r.length)), List.getElem?_append_right (by omega), List.getElem?_append_right (l₁ := splice xs o r) (by rw [splice_length]; omega), splice_length]
    by_cases h2 : k < xs.length + ys.length
    · rw [if_pos h2]
    · rw [if_neg h2, List.getElem?_eq_none (by omega)]
theorem Has.row_set {w b e sz} {rows : List (List Value)} {extra r : List Value} {i : Nat} (h : Has w b (splice (rows.flatten ++ extra) (i * sz) r) e) (hl : ∀ r ∈ rows, r.length = sz) (hi : i < rows.length) (hr : r.length = sz) : Has w b ((rows.set i r).flatten ++ extra) e := by
  have hle : (i + 1) * sz ≤ rows.length * sz := Nat.mul_le_mul_right _ hi
  rw [Nat.succ_mul] at hle
  rwa [splice_left (by rw [flat_len rows hl]; omega), flat_set rows hl i hi r hr] at h

theorem flat_map1 {α : Type} (enc : α → Value) (l : List α) : (l.map fun x => [enc x]).flatten = l.map enc := by
  induction l with
  | nil => rfl
  | cons v l ih => simp [ih]
theorem rep1 (m : Nat) (v : Value) : (List.replicate m [v]).flatten = List.replicate m v := by
  induction m with
  | zero => rfl
  | succ m ih => simp [List.replicate_succ, ih]
theorem Has.sl1 {α : Type} {enc : α → Value} {l : List α} {w b e} (h : Has w b (l.map enc) e) : Sl w (some ⟨b, 0, none⟩) 1 (l.map fun x => [enc x]) :=
  Has.sl0 (by rw [flat_map1]; exact h) (by intro r hr; obtain ⟨x, _, rfl⟩ := List.mem_map.1 hr; rfl)
theorem Has.set1 {α : Type} {enc : α → Value} {l : List α} {w b e i x} (h : Has w b (splice (l.map enc) i [enc x]) e) : Has w b ((l.set i x).map enc) e := by
  have : splice (l.map enc) i [enc x] = (l.set i x).map enc := by simp [splice, List.map_set]
  rwa [this] at h
theorem Has.slPart {α : Type} {enc : α → Value} {l : List α} {w b e o} {pre post : List Value} (h : Has w b (pre ++ l.map enc ++ post) e) (ho : o = pre.length) : Sl w (some ⟨b, o, none⟩) 1 (l.map fun x => [enc x]) :=
  ⟨fun _ => rfl, fun i r hr j v hv => by
    rw [List.getElem?_map] at hr
    cases hx : l[i]? with
    | none => simp [hx] at hr
    | some x =>
      simp [hx] at hr
      subst hr
      cases j with
      | succ j => simp at hv
      | zero =>
        simp at hv
        subst hv
        have hlt : i < l.length := by
          rcases Nat.lt_or_ge i l.length with q | q
          · exact q
          · rw [List.getElem?_eq_none q] at hx; cases hx
        simp only [Option.getD_some, add_lit]
        refine h.cell ?_
        rw [List.append_assoc, List.getElem?_append_right (by omega), List.getElem?_append_left (by simp; omega), List.getElem?_map, show o + i * 1 + 0 - pre.length = i by omega, hx]
        rfl⟩

theorem Has.slOne {w b e} {cs : List Value} (h : Has w b cs e) : Sl w (some ⟨b, 0, none⟩) cs.length [cs] :=
  Has.sl0 (rows := [cs]) (by simpa using h) (by intro r hr; rw [List.mem_singleton] at hr; subst hr; rfl)
theorem splice_all : ∀ (cs vs : List Value), cs.length = vs.length → splice cs 0 vs = vs := by
  intro cs vs h
  apply List.ext_getElem?
  intro k
  rw [splice_get]
  by_cases hk : k < cs.length
  · rw [if_pos hk, if_pos (by omega), Nat.sub_zero]
  · rw [if_neg hk, List.getElem?_eq_none (by omega)]
theorem Has.now {w b e} {cs vs : List Value} (h : Has w b (splice cs 0 vs) e) (hl : cs.length = vs.length) : Has w b vs e := by
  rwa [splice_all cs vs hl] at h
theorem Has.row_at {w b e o} {pre mid post : List Value} (h : Has w b (pre ++ mid ++ post) e) (ho : o = pre.length) : Row w ⟨b, o, none⟩ mid := by
  intro i v hv
  rw [add_lit]
  have hlt : i < mid.length := by
    rcases Nat.lt_or_ge i mid.length with q | q
    · exact q
    · rw [List.getElem?_eq_none q] at hv; cases hv
  refine h.cell ?_
  rw [List.append_assoc, List.getElem?_append_right (by omega), List.getElem?_append_left (by omega), show o + i - pre.length = i by omega, hv]

section
variable {P : Program} {n : Cx} {F : (List (Nat × Value))} {w : World}
theorem EvOp.nilCheck {x a} (hx : XL.ev F x = some (.pointer (some a))) : EvOp P F (.nilCheck x) w (.pointer (some a)) := fun _ _ _ _ _ ρ hρ w' _ => by
  simp only [execOp, hρ x _ hx]; rfl
theorem EvOp.indexO {ty x ix b o m c k i e s by_} (ht : sliceOf P ty = some (e, s, by_)) (hx : XL.ev F x = some (.slice (some ⟨b, o, none⟩) m c)) (hi : XL.ev F ix = some (.int k i)) (h : 0 ≤ i ∧ i < m) : EvOp P F (.indexAddr ty x ix) w (.pointer (some ⟨b, o + i.toNat * s, none⟩)) :=
  EvOp.as (EvOp.indexA ht hx hi h) (by rw [add_lit])
end
section
variable {P : Program} {ops : Array Oper} {Q : Exit → Act → World → Prop}
theorem wpOp_putA {j : Nat} {oi oj : Oper} {v : Value} (hj : ops[j]? = some oj) (hap : oi.apart ops oj = true)
    (hsi : ∀ cs b, oi.op ≠ .select cs b) (hsj : ∀ cs b, oj.op ≠ .select cs b)
    (hQ : ∀ c a w, Q (.panic c) (a.put oi.dst v) w → Q (.panic c) a w) {K : Act → World → Prop} {a : Act} {w : World} {X : Sem Next} {B : Bool}
    (E : execOp a.eval oi = X) (W : Region.wanted oi (yielded ops a.tmps) = B) (h : wpOp P ops Q j K (a.put oi.dst v) w) :
    wpOp P ops Q j (fun a' w' => (execOp a'.eval oi = X ∧ Region.wanted oi (yielded ops a'.tmps) = B) ∧ K (a'.put oi.dst v) w') a w := by
  obtain ⟨h1, h2, h3⟩ := Oper.apart_spec hap
  have keep : ∀ u, execOp (a.put oj.dst u).eval oi = X ∧ Region.wanted oi (yielded ops (a.put oj.dst u).tmps) = B := fun u =>
    ⟨(execOp_put oi hsi a oj.dst u h3).trans E, (wanted_put oi a oj.dst u h3).trans W⟩
  have keepD : ∀ d u, execOp (Act.put { a with defers := d :: a.defers } oj.dst u).eval oi = X ∧ Region.wanted oi (yielded ops (Act.put { a with defers := d :: a.defers } oj.dst u).tmps) = B := fun d u =>
    ⟨(execOp_put oi hsi { a with defers := d :: a.defers } oj.dst u h3).trans E, (wanted_put oi { a with defers := d :: a.defers } oj.dst u h3).trans W⟩
  unfold wpOp at *
  simp only [hj] at *
  rw [wanted_put oj a oi.dst v h1] at h
  split
  · rename_i hw
    simp only [hw, if_true] at h
    rcases h with h | ⟨hasks, hlets⟩
    case inr => exact .inr ⟨by unfold Oper.asks at *; rw [execOp_put oj hsj a oi.dst v h1] at hasks; exact hasks, hlets⟩
    refine .inl ?_
    unfold Oper.wp at *
    rw [execOp_put oj hsj a oi.dst v h1] at h
    generalize (execOp a.eval oj).run P w = r at *
    cases r with
    | ok n w' =>
      cases n <;> simp only [Oper.upon] at h ⊢
      case value u => exact ⟨keep u, by rw [← Act.put_comm a v u h2]; exact h⟩
      case skip => exact ⟨keep _, by rw [← Act.put_comm a v undef h2]; exact h⟩
      case defer d =>
        refine ⟨keepD d _, ?_⟩
        rw [← Act.put_comm _ v undef h2, ← Act.put_defers]
        exact h
      case enter f args =>
        refine Calls.mono h fun e w'' he => ?_
        cases e with
        | returned u => exact ⟨keep u, by rw [← Act.put_comm a v u h2]; exact he⟩
        | panicked c => exact hQ _ _ _ he
        | outgrown => exact he
      case row row args => exact Rows.mono h fun u w'' he => ⟨keep u, by rw [← Act.put_comm a v u h2]; exact he⟩
    | halt x w' =>
      cases x <;> simp only [Oper.upon] at h ⊢
      case panic u => exact hQ _ _ _ h
  · rename_i hw
    simp only [hw] at h
    exact ⟨keep _, by rw [← Act.put_comm a v undef h2]; exact h⟩

def WA (P : Program) (ops : Array Oper) (Q : Exit → Act → World → Prop) (M : Nat → Nat → Prop) : Nat → Array Bool → Act → World → Prop
  | 0, L, a, w => Region.ready .any ops L = [] ∧ Q .normal a w
  | f + 1, L, a, w => (Region.ready .any ops L = [] → Q .normal a w) ∧
    ∀ i ∈ Region.ready .any ops L, wpOp P ops Q i (fun a' w' => Agr (M i) w w' ∧ WA P ops Q M f (L.setIfInBounds i true) a' w') a w

theorem WA.any {M : Nat → Nat → Prop} : ∀ (f : Nat) (L : Array Bool) (a : Act) (w : World), WA P ops Q M f L a w → wpAny P .any ops Q f L a w
  | 0, _, _, _, h => h
  | f + 1, L, a, w, h => ⟨h.1, fun i hi => wpOp_mono (fun a' w' hk => WA.any f _ a' w' hk.2) (h.2 i hi)⟩

theorem WA.first {M : Nat → Nat → Prop} {N : Nat → Prop} {i : Nat} {oi : Oper} {v : Value} {X : Sem Next} {B : Bool} (hi : ops[i]? = some oi) (hsel : ∀ (j : Nat) (o : Oper) cs b, ops[j]? = some o → o.op ≠ .select cs b)
    (hQ : ∀ c a w, Q (.panic c) (a.put oi.dst v) w → Q (.panic c) a w) :
    ∀ (fuel : Nat) (L : Array Bool) (a : Act) (w : World),
      (∀ j oj, ops[j]? = some oj → j ≠ i → L.getD j true = false → (∀ e ∈ oj.after, Region.binds .any e = true → e.on ≠ i) → oi.apart ops oj = true ∧ ∀ k, M j k → N k) →
      i ∈ Region.ready .any ops L → execOp a.eval oi = X → Region.wanted oi (yielded ops a.tmps) = B → (B = true → ∀ w', Agr N w w' → X.run P w' = .ok (.value v) w') → (B = false → v = undef) →
      WA P ops Q M fuel (L.setIfInBounds i true) (a.put oi.dst v) w → WA P ops Q M (fuel + 1) L a w := by
  intro fuel
  have run : ∀ {K : Act → World → Prop} {a : Act} {w : World}, execOp a.eval oi = X → Region.wanted oi (yielded ops a.tmps) = B → (B = true → ∀ w', Agr N w w' → X.run P w' = .ok (.value v) w') → (B = false → v = undef) → K (a.put oi.dst v) w → wpOp P ops Q i K a w := by
    intro K a w E W hX hB h
    unfold wpOp
    simp only [hi, W]
    cases B with
    | true => simp only [if_true, Oper.wp, E, hX rfl w (Agr.refl _ _), Oper.upon]; exact .inl h
    | false => have := hB rfl; subst this; simp only [Bool.false_eq_true, if_false]; exact h
  induction fuel with
  | zero =>
    intro L a w _ hr E W hX hB H
    refine ⟨fun h => (by rw [h] at hr; cases hr), fun j hj => ?_⟩
    by_cases hji : j = i
    · subst hji; exact run E W hX hB ⟨Agr.refl _ _, H⟩
    · have := ready_mono hj hji
      rw [H.1] at this
      cases this
  | succ fuel ih =>
    intro L a w hfree hr E W hX hB H
    refine ⟨fun h => (by rw [h] at hr; cases hr), fun j hj => ?_⟩
    by_cases hji : j = i
    · subst hji; exact run E W hX hB ⟨Agr.refl _ _, H⟩
    · have h1 := H.2 j (ready_mono hj hji)
      obtain ⟨hjun, oj, hoj, hall⟩ := mem_ready.1 hj
      have hnot : ∀ e ∈ oj.after, Region.binds .any e = true → e.on ≠ i := fun e he hb heq => by
        have h1 := hall e he hb
        have h0 := (mem_ready.1 hr).1
        rw [heq] at h1
        rcases Nat.lt_or_ge i L.size with h' | h'
        · simp [h'] at h0 h1; rw [h0] at h1; cases h1
        · simp [Array.getElem?_eq_none h'] at h1
      have hj2 := hfree j oj hoj hji hjun hnot
      have h2 := wpOp_putA hoj hj2.1 (fun cs b => hsel i oi cs b hi) (fun cs b => hsel j oj cs b hoj) hQ E W h1
      have hfree' : ∀ k ok, ops[k]? = some ok → k ≠ i → (L.setIfInBounds j true).getD k true = false →
          (∀ e ∈ ok.after, Region.binds .any e = true → e.on ≠ i) → oi.apart ops ok = true ∧ ∀ x, M k x → N x := fun k ok hk hki hun hno => by
        refine hfree k ok hk hki ?_ hno
        by_cases hjk : j = k
        · subst hjk; exact hjun
        · rw [getD_set_ne true hjk] at hun; exact hun
      refine wpOp_mono (fun a' w' h3 => ⟨h3.2.1, ih (L.setIfInBounds j true) a' w' hfree' (ready_mono hr (Ne.symm hji)) h3.1.1 h3.1.2 (fun e w'' hw'' => hX e w'' ((h3.2.1.mono fun k _ hk => hj2.2 k hk).trans hw'')) hB ?_⟩) h2
      rw [Array.setIfInBounds_comm _ _ hji]
      exact h3.2.2
end
def MW (N : Nat → Prop) (Wr : List Nat) (B : Nat) (j k : Nat) : Prop := (Wr.contains j = true ∧ N k) ∨ B ≤ k
def RD (P : Program) (n : Cx) (l : List Oper) (N : Nat → Prop) (Wr : List Nat) (B : Nat) (L : Array Bool) (f : Nat) (F : List (Nat × Value)) (w : World) (p : Post) : Prop := ∀ a, Knows n F a → WA P l.toArray p.q (MW N Wr B) f L a w
def noWr (l : List Oper) (Wr : List Nat) (L : Array Bool) (i : Nat) : Bool :=
  Wr.all fun j => L.getD j true || match l[j]? with | some o => o.after.any (fun e => Region.binds .any e && e.on == i) | none => true

section
variable {P : Program} {n : Cx} {F : List (Nat × Value)} {w : World} {p : Post} {l : List Oper} {N : Nat → Prop} {Wr : List Nat} {B : Nat} {L : Array Bool} {f : Nat} {d : Option Tmp} {o : Op} {t : TypeId} {pos : String} {af : Array Edge} {g : Option (Nat × Bool)}
theorem RC.drawD {id ops} (N : Nat → Prop) (Wr : List Nat) (B m : Nat) (hl : ops = List.toArray l) (hn : l.length = m) (hm : P.follows .mixedOrders = true) (h : ∀ w', Sub w w' → RD P n l N Wr B (Array.replicate m false) m F w' p) (hR : n.round = none := by rfl) : RC P n (.region id ops true) F w p := by
  intro a k
  rw [cwp_none hR]
  subst hl
  subst hn
  refine wp_region_any hm (WA.any (M := MW N Wr B) _ _ _ _ ?_)
  have := h { w with drawn := w.drawn + 1 } ⟨rfl, rfl, rfl, Nat.le_refl _, fun _ _ => rfl⟩ a k
  simpa using this
theorem RD.take {v} (i : Nat) (hi : l[i]? = some ⟨d, o, t, pos, af, g⟩) (hs : Region.noSelect l.toArray = true) (hf : Region.free .any l.toArray L i = true) (hr : (Region.ready .any l.toArray L).contains i = true)
    (he : ∀ w', Agr (fun k => N k ∨ B ≤ k) w w' → EvOp P F o w' v) (hg : gsat l.toArray F g = some true) (hd : inB d n = true) (h : RD P n l N Wr B (L.setIfInBounds i true) f (upd F d v) w p) : RD P n l N Wr B L (f + 1) F w p := by
  intro a k
  have hi' : l.toArray[i]? = some ⟨d, o, t, pos, af, g⟩ := by simpa using hi
  refine WA.first (N := fun k => N k ∨ B ≤ k) hi' (Region.noSelect_spec hs) (fun c a w h => h) f L a w (fun j oj h1 h2 h3 h4 => ⟨Region.free_spec hi' hf j oj h1 h2 h3 h4, fun k hk => hk.imp And.right id⟩) (by simpa using hr) rfl (wanted_of k hg) (fun _ w' hw' => ?_) (fun e => by cases e) (h _ (k.upd d v hd))
  exact he w' hw' d t pos af g _ k.agrees w' (Sub.refl _)
theorem RD.takeL {v} (i : Nat) (hi : l[i]? = some ⟨d, o, t, pos, af, g⟩) (hs : Region.noSelect l.toArray = true) (hf : Region.free .any l.toArray L i = true) (hr : (Region.ready .any l.toArray L).contains i = true) (hw : noWr l Wr L i = true)
    (he : ∀ w', Agr (fun k => B ≤ k) w w' → EvOp P F o w' v) (hg : gsat l.toArray F g = some true) (hd : inB d n = true) (h : RD P n l N Wr B (L.setIfInBounds i true) f (upd F d v) w p) : RD P n l N Wr B L (f + 1) F w p := by
  intro a k
  have hi' : l.toArray[i]? = some ⟨d, o, t, pos, af, g⟩ := by simpa using hi
  refine WA.first (N := fun k => B ≤ k) hi' (Region.noSelect_spec hs) (fun c a w h => h) f L a w (fun j oj h1 h2 h3 h4 => ⟨Region.free_spec hi' hf j oj h1 h2 h3 h4, fun k hk => hk.elim (fun hk => ?_) id⟩) (by simpa using hr) rfl (wanted_of k hg) (fun _ w' hw' => ?_) (fun e => by cases e) (h _ (k.upd d v hd))
  · have hc := hk.1
    have := List.all_eq_true.1 hw j (by simpa using hc)
    have hlj : l[j]? = some oj := by simpa using h1
    simp only [h3, Bool.false_or, hlj] at this
    obtain ⟨e, he1, he2⟩ := Array.any_eq_true'.1 this
    simp only [Bool.and_eq_true, beq_iff_eq] at he2
    exact absurd he2.2 (h4 e he1 he2.1)
  · exact he w' hw' d t pos af g _ k.agrees w' (Sub.refl _)
theorem RD.takeOff (i : Nat) (hi : l[i]? = some ⟨d, o, t, pos, af, g⟩) (hs : Region.noSelect l.toArray = true) (hf : Region.free .any l.toArray L i = true) (hr : (Region.ready .any l.toArray L).contains i = true)
    (hg : gsat l.toArray F g = some false) (hd : inB d n = true) (h : RD P n l N Wr B (L.setIfInBounds i true) f (upd F d undef) w p) : RD P n l N Wr B L (f + 1) F w p := by
  intro a k
  have hi' : l.toArray[i]? = some ⟨d, o, t, pos, af, g⟩ := by simpa using hi
  exact WA.first (N := fun k => N k ∨ B ≤ k) hi' (Region.noSelect_spec hs) (fun c a w h => h) f L a w (fun j oj h1 h2 h3 h4 => ⟨Region.free_spec hi' hf j oj h1 h2 h3 h4, fun k hk => hk.imp And.right id⟩) (by simpa using hr) rfl (wanted_of k hg) (fun e => by cases e) (fun _ => rfl) (h _ (k.upd d undef hd))
theorem RD.split {q : Prop} [Decidable q] (s : Nat) (hs : look F s = some (.bool (decide q))) (hy : q → RD P n l N Wr B L f ((s, .bool true) :: F) w p) (hn : ¬ q → RD P n l N Wr B L f ((s, .bool false) :: F) w p) : RD P n l N Wr B L f F w p := by
  intro a k
  have key : ∀ b, decide q = b → Knows n ((s, .bool b) :: F) a := fun b e => ⟨k.size, k.defers, fun t v ht => by
    rw [look_cons] at ht
    by_cases e' : s = t
    · subst e'; simp at ht; subst ht; exact e ▸ k.slot s _ hs
    · simp [e'] at ht; exact k.slot t v ht⟩
  by_cases h : q
  · exact hy h a (key true (decide_eq_true h))
  · exact hn h a (key false (decide_eq_false h))
def RDs (P : Program) (n : Cx) (l : List Oper) (N : Nat → Prop) (Wr : List Nat) (B : Nat) (L : Array Bool) (f : Nat) (is : List Nat) (F : List (Nat × Value)) (w : World) (p : Post) : Prop :=
  ∀ i ∈ is, ∀ a, Knows n F a → wpOp P l.toArray p.q i (fun a' w' => Agr (MW N Wr B i) w w' ∧ WA P l.toArray p.q (MW N Wr B) f (L.setIfInBounds i true) a' w') a w
theorem RD.all (is : List Nat) (hr : Region.ready .any l.toArray L = is) (hne : is.isEmpty = false) (h : RDs P n l N Wr B L f is F w p) : RD P n l N Wr B L (f + 1) F w p := fun a k =>
  ⟨fun e => (by rw [e] at hr; subst hr; cases hne), fun i hi => h i (hr ▸ hi) a k⟩
theorem RDs.nil : RDs P n l N Wr B L f [] F w p := fun i hi => by cases hi
theorem RDs.cons {i is o} (hi : l[i]? = some o) (h : RL P n l.toArray [o] F w (p.to fun a w' => Agr (MW N Wr B i) w w' ∧ WA P l.toArray p.q (MW N Wr B) f (L.setIfInBounds i true) a w')) (hs : RDs P n l N Wr B L f is F w p) (hR : n.round = none := by rfl) : RDs P n l N Wr B L f (i :: is) F w p := by
  intro j hj a k
  rcases List.mem_cons.1 hj with rfl | hj
  · have := h a k
    rw [lwp_none hR] at this
    simp only [wpList] at this
    unfold wpOp
    have hi' : l.toArray[j]? = some o := by simpa using hi
    simp only [hi']
    split
    · rename_i hw
      simp only [hw, if_true] at this
      rcases this with this | ⟨ha, hl⟩
      · refine .inl ?_
        unfold Oper.wp at *
        generalize (execOp a.eval o).run P w = r at *
        cases r with
        | ok n w' =>
          cases n <;> simp only [Oper.upon] at this ⊢ <;>
            first
              | exact this
              | exact Calls.mono this (fun e w'' he => by cases e <;> exact he)
              | exact Rows.mono this (fun _ _ he => he)
        | halt x w' => cases x <;> simp only [Oper.upon] at this ⊢ <;> exact this
      · exact .inr ⟨ha, hl⟩
    · rename_i hw
      simp only [hw] at this
      exact this
  · exact hs j hj a k
theorem RD.back {ops : Array Oper} {i F' w'} (hA : Agr (fun k => B ≤ k) w w') (h : RD P n l N Wr B L f F' w' p) : RL P n ops [] F' w' (p.to fun a w'' => Agr (MW N Wr B i) w w'' ∧ WA P l.toArray p.q (MW N Wr B) f L a w'') :=
  RL.nil fun a k => ⟨hA.mono fun k _ hk => .inr hk, h a k⟩
theorem RD.backW {ops : Array Oper} {i F' w'} (hi : Wr.contains i = true) (hA : Agr (fun k => N k ∨ B ≤ k) w w') (h : RD P n l N Wr B L f F' w' p) : RL P n ops [] F' w' (p.to fun a w'' => Agr (MW N Wr B i) w w'' ∧ WA P l.toArray p.q (MW N Wr B) f L a w'') :=
  RL.nil fun a k => ⟨hA.mono fun k _ hk => hk.imp (fun h => ⟨hi, h⟩) id, h a k⟩
theorem RD.done (hr : Region.ready .any l.toArray L = []) (h : ∀ a, Knows n F a → p.nrm a w) : RD P n l N Wr B L f F w p := fun a k => by
  cases f with
  | zero => exact ⟨hr, h a k⟩
  | succ f => exact ⟨fun _ => h a k, by rw [hr]; simp⟩

theorem Sub.agrN {w0 w' : World} (s : Sub w0 w) (a : Agr N w w') (hN : ∀ k, N k → w0.heap.size ≤ k) : Sub w0 w' :=
  ⟨a.os.trans s.os, a.tape.trans s.tape, a.output.trans s.output, Nat.le_trans s.size a.size, fun k hk => (a.block k (Nat.lt_of_lt_of_le hk s.size) (fun e => Nat.not_le.2 hk (hN k e))).trans (s.block k hk)⟩
theorem RC.cutx {c y} {α : Type} (G : α → List (Nat × Value)) (I : α → World → Prop) (h : RC P n c F w (p.to fun a w' => ∃ x, I x w' ∧ Knows n (G x) a)) (k : ∀ x w', I x w' → RC P n y (G x) w' p) : RC P n (.seq c y) F w p :=
  RC.seq fun a ka => cwp_mono (h a ka) fun e a' w' hq => by
    cases e with
    | normal => obtain ⟨x, h1, h2⟩ := hq; exact k x w' h1 a' h2
    | _ => exact hq
end
def OwnC (base : Nat) (w : World) (e : TypeId) (sz : Nat) (v : Value) (rows : List (List Value)) : Prop :=
  Ows base w e sz v rows ∨ ∃ a, v = .slice a rows.length rows.length ∧ Sl w a sz rows ∧ ∀ r ∈ rows, r.length = sz
theorem OwnC.form {base w e sz v rows} (h : OwnC base w e sz v rows) : ∃ a c, v = .slice a rows.length c ∧ rows.length ≤ c ∧ Sl w a sz rows := by
  rcases h with h | ⟨a, rfl, h, _⟩
  · obtain ⟨a, c, rfl, hc⟩ := h.form
    exact ⟨a, c, rfl, hc, h.sl.1⟩
  · exact ⟨a, _, rfl, Nat.le_refl _, h⟩
theorem Ows.ge {base w e sz v rows} (h : Ows base w e sz v rows) : ∀ k, ob v = some k → base ≤ k ∧ k < w.heap.size := h.own.lt
theorem Ows.neNew {base w e sz v rows b} (h : Ows base w e sz v rows) (hb : b = w.heap.size) : ∀ k, ob v = some k → k ≠ b := fun k hk e' => absurd (h.ge k hk).2 (by omega)
theorem Ows.updD {base w e sz v rows w' b} (h : Ows base w e sz v rows) (a : Agr (· = b) w w') (d : ∀ k, ob v = some k → k ≠ b) : Ows base w' e sz v rows := h.step a d
theorem obNe {w : World} {v v' : Value} {b : Nat} (h : ob v' = ob v ∨ ∃ c, ob v' = some c ∧ w.heap.size ≤ c) (d : ∀ k, ob v = some k → k ≠ b) (hb : b < w.heap.size) : ∀ k, ob v' = some k → k ≠ b := by
  intro k hk
  rcases h with h | ⟨c, h1, h2⟩
  · exact d k (h ▸ hk)
  · rw [h1] at hk; cases hk; omega
section
variable {P : Program} {n : Cx} {F : List (Nat × Value)} {w : World} {p : Post} {ops : Array Oper} {rest : List Oper} {d : Option Tmp} {t : TypeId} {pos : String} {af : Array Edge} {g : Option (Nat × Bool)}
theorem run_append_zero {ty t e : TypeId} {i : TypeInfo} (h1 : P.underlying ty = some (.slice e)) (h2 : P.info? e = some i) {b ax : Option Addr} {k c c' : Nat} (hk : k ≤ c) :
    (Builtin.append_ #[ty, ty] t #[.slice b k c, .slice ax 0 c']).run P w = .ok (.slice b k c) w := by
  have hf : (Builtin.firstCells i.size 0 (.slice ax 0 c')).run P w = .ok #[] w := by
    cases ax <;> simp [Builtin.firstCells, loadCells, loadCellsFrom, pure, Sem.run]
  cases b with
  | none => simp [Builtin.append_, Go.run_underlying h1, sizeOf, typeInfo, h2, Builtin.lenOf, hf, hk]
  | some a => simp [Builtin.append_, Go.run_underlying h1, sizeOf, typeInfo, h2, Builtin.lenOf, hf, hk, storeCells]

theorem RL.append2 {ty y x v ax m c e s by_ z base rows news} (ht : sliceOf P ty = some (e, s, by_)) (hz : zeroOf P e = some z) (hzs : z.cells.size = s) (hs : Nat.blt 0 s = true) (hy : XL.ev F y = some v) (hx : XL.ev F x = some (.slice ax m c))
    (hown : OwnC base w e s v rows) (hnew : Sl w ax s news) (hm : m = news.length) (hnl : ∀ r ∈ news, r.length = s) (hp : news.all (fun r => r.all plainV) = true) (hlen : (rows.length + m) * by_ ≤ 140737488355328) (hlen' : rows.length + m ≤ 140737488355328) (hbase : base ≤ w.heap.size) (hg : gsat ops F g = some true) (hd : inB d n = true)
    (h : ∀ v' w', OwnC base w' e s v' (rows ++ news) → (news ≠ [] ∨ Ows base w e s v rows → Ows base w' e s v' (rows ++ news)) → Agr (fun k => ob v = some k ∧ base ≤ k) w w' → (ob v' = ob v ∨ ∃ b, ob v' = some b ∧ w.heap.size ≤ b) → RL P n ops rest (upd F d v') w' p) : RL P n ops (⟨d, .call ⟨.builtin .append, #[y, x], #[ty, ty]⟩, t, pos, af, g⟩ :: rest) F w p := by
  have hs' : 0 < s := by simpa using hs
  obtain ⟨h1, i, h2, h3, h4⟩ := sliceOf_spec ht
  obtain ⟨i', hi', hzz⟩ := zeroOf_spec hz
  rw [h2] at hi'; cases hi'
  by_cases hn0 : news = []
  · subst hn0
    have hm0 : m = 0 := hm
    subst hm0
    obtain ⟨b, k, rfl, hk, _⟩ := hown.form
    refine RL.on hg hd (v := .slice b rows.length k) (w' := w) (fun ρ hρ => ?_) (h _ _ (by rw [List.append_nil]; exact hown) (by rw [List.append_nil]; exact fun h => h.resolve_left (fun h => h rfl)) (Agr.refl _ _) (.inl rfl))
    simp only [execOp, resolve, hρ y _ hy, hρ x _ hx, bind, Sem.bind, pure, invoke, builtin, List.map_toArray, List.map_cons, List.map_nil]
    have := run_bind (P := P) (Builtin.append_ #[ty, ty] t #[.slice b rows.length k, .slice ax 0 c]) (fun v => (Sem.pure (Next.value v) : Sem Next)) w
    rw [run_append_zero h1 h2 hk] at this
    exact this
  · obtain ⟨a, rfl⟩ : ∃ a, ax = some a := Option.isSome_iff_exists.1 (hnew.some hn0)
    have go : Ows base w e s v rows → RL P n ops (⟨d, .call ⟨.builtin .append, #[y, x], #[ty, ty]⟩, t, pos, af, g⟩ :: rest) F w p := fun ho =>
      RL.append ht hz hzs hs hy hx ho hnew hm hnl hp hlen hlen' hbase hg hd fun v' w' h1 h2 h3 =>
        h v' w' (.inl h1) (fun _ => h1) ⟨h2.os, h2.tape, h2.output, h2.size, fun k hk hn => h2.block k hk (fun e => hn ⟨e, (ho.ge k e).1⟩)⟩ h3
    rcases hown with hown | ⟨a0, rfl, hsl, hl⟩
    · exact go hown
    · by_cases h0 : a0 = none
      · subst h0
        have : rows = [] := by
          refine Classical.byContradiction fun e => ?_
          have := hsl.some e
          simp at this
        subst this
        exact go (Ows.nil _ _ _ _)
      · obtain ⟨b0, rfl⟩ := Option.ne_none_iff_exists'.1 h0
        have cellsOf : ∀ (ad : Addr) (l : List (List Value)), (∀ r ∈ l, r.length = s) → Sl w (some ad) s l → ∀ j u, l.flatten[j]? = some u → w.cell? (ad.add j) = some u := by
          intro ad l hll hsl j u hj
          have hjl : j < l.length * s := by
            rw [← flat_len l hll]
            rcases Nat.lt_or_ge j l.flatten.length with q | q
            · exact q
            · rw [List.getElem?_eq_none q] at hj; cases hj
          have hd' : j / s < l.length := (Nat.div_lt_iff_lt_mul hs').2 hjl
          have hmod : j % s < s := Nat.mod_lt _ hs'
          have ej : j = (j / s) * s + j % s := by rw [Nat.mul_comm]; exact (Nat.div_add_mod j s).symm
          obtain ⟨r, hr⟩ : ∃ r, l[j / s]? = some r := ⟨_, List.getElem?_eq_getElem hd'⟩
          have hf := flat_get l hll (j / s) (j % s) r hr hmod
          rw [← ej, hj] at hf
          have hc := hsl.row (j / s) r hr (j % s) u hf.symm
          simp only [Option.getD_some] at hc
          rw [← hc]
          congr 1
          rw [ej]
          obtain ⟨bb, oo, sp⟩ := ad
          unfold Addr.add
          by_cases q1 : (j / s) * s = 0
          · rw [← ej]
            by_cases q2 : j % s = 0
            · rw [if_pos (by omega), if_pos q1, if_pos q2]
            · rw [if_neg (by omega), if_pos q1, if_neg q2]; simp only; congr 2; omega
          · rw [← ej]
            by_cases q2 : j % s = 0
            · rw [if_neg (by omega), if_neg q1, if_pos q2]; congr 1; omega
            · rw [if_neg (by omega), if_neg q1, if_neg q2]; simp only; congr 1; omega
        subst hm
        have hnl0 : 0 < news.length := by cases news with | nil => exact absurd rfl hn0 | cons _ _ => simp
        have hml : rows.length + news.length ≤ maxLen := by unfold maxLen; omega
        have hfo : rows.flatten.length = rows.length * s := flat_len rows hl
        have hfn : news.flatten.length = news.length * s := flat_len news hnl
        have hr := run_append_grow (P := P) w ty t e i z h1 h2 hzz b0 rows.length rows.length rows.flatten (by rw [hfo, h3]) (cellsOf b0 rows hl hsl) a news.length c news.flatten (by rw [hfn, h3]) (cellsOf a news hnl hnew) (by omega) (by omega) (growslice_fits (by omega) (by rw [h4]; exact hlen))
        have hge := grownCap_ge w (rows.length + news.length) rows.length e
        have hcm := grownCap_le_maxLen w (rows.length + news.length) rows.length e hml
        have hfl : (rows ++ news).flatten = rows.flatten ++ news.flatten := List.flatten_append
        have hrl : (rows ++ news).length = rows.length + news.length := List.length_append
        generalize hw0 : w.drew.alloc (.cells (rows.flatten.toArray ++ news.flatten.toArray ++ Builtin.zeroCells z.cells (grownCap w (rows.length + news.length) rows.length e - (rows.length + news.length))) e) = w0 at hr
        have ho : Ows base w0 e s (.slice (some ⟨w.heap.size, 0, none⟩) (rows.length + news.length) (grownCap w (rows.length + news.length) rows.length e)) (rows ++ news) := by
          subst hw0
          refine ⟨⟨by rw [hfl, hrl, List.length_append, hfo, hfn, Nat.add_mul], .inr ⟨w.heap.size, _, _, by rw [hrl], hbase, heap_alloc_new w.drew _, by rw [hrl]; exact hge, hcm, ?_, ?_⟩⟩, fun r hr => (List.mem_append.1 hr).elim (hl r) (hnl r)⟩
          · simp only [Array.size_append, List.size_toArray, size_zeroCells, hzs, hfo, hfn, ← Nat.add_mul]
            congr 1
            omega
          · simp only [Array.toList_append, List.append_assoc]
            rw [hrl, hfl, ← List.append_assoc, show (rows.length + news.length) * s = (rows.flatten ++ news.flatten).length by rw [List.length_append, hfo, hfn, Nat.add_mul]]
            exact List.take_left
        have ha : Agr (fun _ => False) w w0 := by
          subst hw0
          exact ⟨rfl, rfl, rfl, by simp, fun k hk _ => heap_alloc_old' w.drew _ hk⟩
        refine RL.on hg hd (v := .slice (some ⟨w.heap.size, 0, none⟩) (rows.length + news.length) (grownCap w (rows.length + news.length) rows.length e)) (w' := w0) (fun ρ hρ => ?_) (h _ _ (.inl ho) (fun _ => ho) (ha.mono fun k _ e => e.elim) (.inr ⟨_, rfl, Nat.le_refl _⟩))
        simp only [execOp, resolve, hρ y _ hy, hρ x _ hx, bind, Sem.bind, pure, invoke, builtin, List.map_toArray, List.map_cons, List.map_nil]
        have := run_bind (P := P) (Builtin.append_ #[ty, ty] t #[.slice (some b0) rows.length rows.length, .slice (some a) news.length c]) (fun v => (Sem.pure (Next.value v) : Sem Next)) w
        rw [hr] at this
        exact this
end
end Go.XL
namespace Go.XL
open Go
section
variable {P : Program} {n : Cx} {F : List (Nat × Value)} {w : World} {p : Post} {l : List Oper} {N : Nat → Prop} {Wr : List Nat} {B : Nat} {L : Array Bool} {f : Nat} {d : Option Tmp} {o : Op} {t : TypeId} {pos : String} {af : Array Edge} {g : Option (Nat × Bool)}
def tkB (l : List Oper) (L : Array Bool) (i : Nat) : Bool := Region.noSelect l.toArray && (Region.free .any l.toArray L i && (Region.ready .any l.toArray L).contains i)
theorem tkB_spec {i : Nat} (h : tkB l L i = true) : Region.noSelect l.toArray = true ∧ Region.free .any l.toArray L i = true ∧ (Region.ready .any l.toArray L).contains i = true := by
  unfold tkB at h
  rw [Bool.and_eq_true, Bool.and_eq_true] at h
  exact h
theorem RD.takeS {v} (i : Nat) (hi : l[i]? = some ⟨d, o, t, pos, af, g⟩) (hb : tkB l L i = true) (he : ∀ w', Agr (fun k => N k ∨ B ≤ k) w w' → EvOp P F o w' v) (hg : gsat l.toArray F g = some true) (hd : inB d n = true) (h : RD P n l N Wr B (L.setIfInBounds i true) f (upd F d v) w p) : RD P n l N Wr B L (f + 1) F w p :=
  RD.take i hi (tkB_spec hb).1 (tkB_spec hb).2.1 (tkB_spec hb).2.2 he hg hd h
theorem RD.takeOffS (i : Nat) (hi : l[i]? = some ⟨d, o, t, pos, af, g⟩) (hb : tkB l L i = true) (hg : gsat l.toArray F g = some false) (hd : inB d n = true) (h : RD P n l N Wr B (L.setIfInBounds i true) f (upd F d undef) w p) : RD P n l N Wr B L (f + 1) F w p :=
  RD.takeOff i hi (tkB_spec hb).1 (tkB_spec hb).2.1 (tkB_spec hb).2.2 hg hd h
theorem RL.eS {rest : List Oper} {ops : Array Oper} {v} (he : EvOp P F o w v) (h : RL P n ops rest (upd F d v) w p) (hg : gsat ops F g = some true := by rfl) (hd : inB d n = true := by rfl) : RL P n ops (⟨d, o, t, pos, af, g⟩ :: rest) F w p := RL.ev he hg hd h
theorem RL.mvS {rest : List Oper} {ops : Array Oper} {x v} (hx : XL.ev F x = some v) (h : RL P n ops rest (upd F d v) w p) (hg : gsat ops F g = some true := by rfl) (hd : inB d n = true := by rfl) : RL P n ops (⟨d, .move x, t, pos, af, g⟩ :: rest) F w p := RL.ev (.move hx) hg hd h
theorem RL.asS {rest : List Oper} {ops : Array Oper} {x v} (hx : XL.ev F x = some v) (h : RL P n ops rest (upd F d v) w p) (hg : gsat ops F g = some true := by rfl) (hd : inB d n = true := by rfl) : RL P n ops (⟨d, .assign x, t, pos, af, g⟩ :: rest) F w p := RL.ev (.assign hx) hg hd h
theorem RD.tS {v} (i : Nat) (hi : l[i]? = some ⟨d, o, t, pos, af, g⟩) (he : ∀ w', Agr (fun k => N k ∨ B ≤ k) w w' → EvOp P F o w' v) (h : RD P n l N Wr B (L.setIfInBounds i true) f (upd F d v) w p) (hb : tkB l L i = true := by kernel_rfl) (hg : gsat l.toArray F g = some true := by rfl) (hd : inB d n = true := by rfl) : RD P n l N Wr B L (f + 1) F w p :=
  RD.takeS i hi hb he hg hd h
theorem RC.d1 (k : Nat) {fn : Func} {R : Value → World → Prop} {v : Value} (hrs : fn.results = [ResultVar.tmp k].toArray) (hp : p.ret = (Post.fn P fn R).ret) (hv : look F k = some v) (hR : R (tup [v]) w) (hM : n.marks = [] := by rfl) : RC P n .ret F w p :=
  RC.done (rs := [.tmp k]) (vs := [v]) hrs hp ⟨hv, trivial⟩ hR hM
theorem RL.stS {rest : List Oper} {ops : Array Oper} {ty x y b o e cs v k s} (hs : shapeOf P ty = some (k, s)) (hx : XL.ev F x = some (.pointer (some ⟨b, o, none⟩))) (hy : XL.ev F y = some v) (hz : v.cells.size = s) (hb : Has w b cs e) (h : ∀ w', w'.heap.size = w.heap.size → Has w' b (splice cs o v.cells.toList) e → Agr (· = b) w w' → RL P n ops rest F w' p)
    (hl : o + v.cells.toList.length ≤ cs.length := by exact Nat.le_of_ble_eq_true rfl) (hp : v.cells.toList.all plainV = true := by rfl) (hg : gsat ops F g = some true := by rfl) : RL P n ops (⟨none, .store ty x y, t, pos, af, g⟩ :: rest) F w p := RL.store hs hx hy hz hb hl hp hg h
theorem RD.oneS {oi : Oper} (i : Nat) (hi : l[i]? = some oi) (h : RL P n l.toArray [oi] F w (p.to fun a w' => Agr (MW N Wr B i) w w' ∧ WA P l.toArray p.q (MW N Wr B) f (L.setIfInBounds i true) a w')) (hr : Region.ready .any l.toArray L = [i] := by kernel_rfl) (hR : n.round = none := by rfl) : RD P n l N Wr B L (f + 1) F w p := RD.all [i] hr rfl (RDs.cons hi h RDs.nil hR)
theorem RQ.oS {rest : List Oper} {ops : Array Oper} {K : Act → Prop} (h : RQ P n ops rest (upd F d undef) w K) (hg : gsat ops F g = some false := by rfl) (hd : inB d n = true := by rfl) : RQ P n ops (⟨d, o, t, pos, af, g⟩ :: rest) F w K := RQ.off hg hd h
/-- some operations that do not run -/
def offB (ops : Array Oper) (n : Cx) : Nat → List Oper → List (Nat × Value) → Bool
  | 0, _, _ => true
  | _ + 1, [], _ => false
  | m + 1, o :: l, F => (match gsat ops F o.guard with | some false => inB o.dst n | _ => false) && offB ops n m l (upd F o.dst undef)
def offF : Nat → List Oper → List (Nat × Value) → List (Nat × Value)
  | 0, _, F => F
  | _ + 1, [], F => F
  | m + 1, o :: l, F => offF m l (upd F o.dst undef)
theorem RL.offs {ops : Array Oper} : ∀ (m : Nat) {l : List Oper} {F : List (Nat × Value)}, offB ops n m l F = true → RL P n ops (l.drop m) (offF m l F) w p → RL P n ops l F w p
  | 0, _, _, _, h => h
  | _ + 1, [], _, hb, _ => by cases hb
  | m + 1, ⟨d, o, t, pos, af, g⟩ :: l, F, hb, h => by
    simp only [offB] at hb
    cases hg : gsat ops F g with
    | none => rw [hg] at hb; cases hb
    | some b =>
      cases b with
      | true => rw [hg] at hb; cases hb
      | false =>
        rw [hg, Bool.and_eq_true] at hb
        exact RL.off hg hb.1 (RL.offs m hb.2 h)
end
end Go.XL
set_option linter.unusedVariables false
namespace Go.Proofs.YtbjmllnddanniaaGreat
open Go
theorem mxo : Tryz.prog.follows .mixedOrders = true := by kernel_rfl
theorem sh2 : XL.shapeOf Tryz.prog 2 = some (false, 1) := by kernel_rfl
theorem i2 : XL.intOf? Tryz.prog 2 = some .i64 := by kernel_rfl
theorem ze2 : XL.zeroOf Tryz.prog 2 = some (.int .i64 0) := by kernel_rfl
theorem sh3 : XL.shapeOf Tryz.prog 3 = some (false, 1) := by kernel_rfl
theorem i3 : XL.intOf? Tryz.prog 3 = some .i64 := by kernel_rfl
theorem ze3 : XL.zeroOf Tryz.prog 3 = some (.int .i64 0) := by kernel_rfl
theorem sh4 : XL.shapeOf Tryz.prog 4 = some (false, 1) := by kernel_rfl
theorem bo4 : Tryz.prog.underlying 4 = some .bool := by kernel_rfl
theorem ze4 : XL.zeroOf Tryz.prog 4 = some (.bool false) := by kernel_rfl
theorem sl22 : XL.sliceOf Tryz.prog 22 = some (35, 4, 32) := by kernel_rfl
theorem sh23 : XL.shapeOf Tryz.prog 23 = some (false, 1) := by kernel_rfl
theorem sl23 : XL.sliceOf Tryz.prog 23 = some (140, 16, 128) := by kernel_rfl
theorem sh24 : XL.shapeOf Tryz.prog 24 = some (false, 1) := by kernel_rfl
theorem sl24 : XL.sliceOf Tryz.prog 24 = some (3, 1, 8) := by kernel_rfl
theorem ze24 : XL.zeroOf Tryz.prog 24 = some (.slice none 0 0) := by kernel_rfl
theorem sh26 : XL.shapeOf Tryz.prog 26 = some (true, 2) := by kernel_rfl
theorem fo26_0 : XL.fieldOff Tryz.prog 26 0 = some 0 := by kernel_rfl
theorem fo26_1 : XL.fieldOff Tryz.prog 26 1 = some 1 := by kernel_rfl
theorem pl26 : XL.placesOf Tryz.prog 26 = some [(0, 1), (1, 1)] := by kernel_rfl
theorem ze26 : XL.zeroOf Tryz.prog 26 = some (.agg #[.slice none 0 0, .slice none 0 0]) := by kernel_rfl
theorem sh27 : XL.shapeOf Tryz.prog 27 = some (false, 1) := by kernel_rfl
theorem sh30 : XL.shapeOf Tryz.prog 30 = some (false, 1) := by kernel_rfl
theorem i30 : XL.intOf? Tryz.prog 30 = some .u64 := by kernel_rfl
theorem sh31 : XL.shapeOf Tryz.prog 31 = some (false, 1) := by kernel_rfl
theorem i31 : XL.intOf? Tryz.prog 31 = some .u64 := by kernel_rfl
theorem ze31 : XL.zeroOf Tryz.prog 31 = some (.int .u64 0) := by kernel_rfl
theorem sh33 : XL.shapeOf Tryz.prog 33 = some (true, 4) := by kernel_rfl
theorem fo33_0 : XL.fieldOff Tryz.prog 33 0 = some 0 := by kernel_rfl
theorem fo33_1 : XL.fieldOff Tryz.prog 33 1 = some 1 := by kernel_rfl
theorem fo33_2 : XL.fieldOff Tryz.prog 33 2 = some 2 := by kernel_rfl
theorem fo33_3 : XL.fieldOff Tryz.prog 33 3 = some 3 := by kernel_rfl
theorem ze33 : XL.zeroOf Tryz.prog 33 = some (.agg #[.int .u64 0, .int .u64 0, .int .u64 0, .int .u64 0]) := by kernel_rfl
theorem sh35 : XL.shapeOf Tryz.prog 35 = some (true, 4) := by kernel_rfl
theorem fo35_0 : XL.fieldOff Tryz.prog 35 0 = some 0 := by kernel_rfl
theorem fo35_1 : XL.fieldOff Tryz.prog 35 1 = some 1 := by kernel_rfl
theorem fo35_2 : XL.fieldOff Tryz.prog 35 2 = some 2 := by kernel_rfl
theorem fo35_3 : XL.fieldOff Tryz.prog 35 3 = some 3 := by kernel_rfl
theorem fk35 : XL.flatK Tryz.prog 6 35 = some [some .i64, some .i64, some .i64, some .i64] := by kernel_rfl
theorem ze35 : XL.zeroOf Tryz.prog 35 = some (.agg #[.int .i64 0, .int .i64 0, .int .i64 0, .int .i64 0]) := by kernel_rfl
theorem sh38 : XL.shapeOf Tryz.prog 38 = some (true, 3) := by kernel_rfl
theorem fo38_0 : XL.fieldOff Tryz.prog 38 0 = some 0 := by kernel_rfl
theorem pl38 : XL.placesOf Tryz.prog 38 = some [(0, 1), (1, 1), (2, 1)] := by kernel_rfl
theorem fk38 : XL.flatK Tryz.prog 6 38 = some [some .i64, some .i64, some .i64] := by kernel_rfl
theorem eg38 : Tryz.prog.eqGuardType Tryz.prog.depth 38 = false := by kernel_rfl
theorem ze38 : XL.zeroOf Tryz.prog 38 = some (.agg #[.int .i64 0, .int .i64 0, .int .i64 0]) := by kernel_rfl
theorem sh42 : XL.shapeOf Tryz.prog 42 = some (false, 1) := by kernel_rfl
theorem sl42 : XL.sliceOf Tryz.prog 42 = some (51, 2, 16) := by kernel_rfl
theorem ze42 : XL.zeroOf Tryz.prog 42 = some (.slice none 0 0) := by kernel_rfl
theorem sh43 : XL.shapeOf Tryz.prog 43 = some (false, 1) := by kernel_rfl
theorem sl43 : XL.sliceOf Tryz.prog 43 = some (2, 1, 8) := by kernel_rfl
theorem ze43 : XL.zeroOf Tryz.prog 43 = some (.slice none 0 0) := by kernel_rfl
theorem sh45 : XL.shapeOf Tryz.prog 45 = some (true, 4) := by kernel_rfl
theorem fo45_0 : XL.fieldOff Tryz.prog 45 0 = some 0 := by kernel_rfl
theorem fo45_1 : XL.fieldOff Tryz.prog 45 1 = some 1 := by kernel_rfl
theorem fo45_2 : XL.fieldOff Tryz.prog 45 2 = some 2 := by kernel_rfl
theorem fo45_3 : XL.fieldOff Tryz.prog 45 3 = some 3 := by kernel_rfl
theorem pl45 : XL.placesOf Tryz.prog 45 = some [(0, 1), (1, 1), (2, 1), (3, 1)] := by kernel_rfl
theorem ze45 : XL.zeroOf Tryz.prog 45 = some (.agg #[.slice none 0 0, .slice none 0 0, .slice none 0 0, .slice none 0 0]) := by kernel_rfl
theorem sh51 : XL.shapeOf Tryz.prog 51 = some (true, 2) := by kernel_rfl
theorem fo51_0 : XL.fieldOff Tryz.prog 51 0 = some 0 := by kernel_rfl
theorem fo51_1 : XL.fieldOff Tryz.prog 51 1 = some 1 := by kernel_rfl
theorem pl51 : XL.placesOf Tryz.prog 51 = some [(0, 1), (1, 1)] := by kernel_rfl
theorem fk51 : XL.flatK Tryz.prog 6 51 = some [some .i64, some .i64] := by kernel_rfl
theorem eg51 : Tryz.prog.eqGuardType Tryz.prog.depth 51 = false := by kernel_rfl
theorem ze51 : XL.zeroOf Tryz.prog 51 = some (.agg #[.int .i64 0, .int .i64 0]) := by kernel_rfl
theorem sh57 : XL.shapeOf Tryz.prog 57 = some (false, 1) := by kernel_rfl
theorem sl57 : XL.sliceOf Tryz.prog 57 = some (77, 7, 88) := by kernel_rfl
theorem sh59 : XL.shapeOf Tryz.prog 59 = some (true, 3) := by kernel_rfl
theorem fo59_0 : XL.fieldOff Tryz.prog 59 0 = some 0 := by kernel_rfl
theorem pl59 : XL.placesOf Tryz.prog 59 = some [(0, 1), (1, 1), (2, 1)] := by kernel_rfl
theorem ze59 : XL.zeroOf Tryz.prog 59 = some (.agg #[.slice none 0 0, .slice none 0 0, .slice none 0 0]) := by kernel_rfl
theorem sl60 : XL.sliceOf Tryz.prog 60 = some (297, 5, 40) := by kernel_rfl
theorem sh61 : XL.shapeOf Tryz.prog 61 = some (false, 1) := by kernel_rfl
theorem sl61 : XL.sliceOf Tryz.prog 61 = some (90, 24, 288) := by kernel_rfl
theorem sh63 : XL.shapeOf Tryz.prog 63 = some (true, 7) := by kernel_rfl
theorem fo63_0 : XL.fieldOff Tryz.prog 63 0 = some 0 := by kernel_rfl
theorem fo63_1 : XL.fieldOff Tryz.prog 63 1 = some 2 := by kernel_rfl
theorem fo63_3 : XL.fieldOff Tryz.prog 63 3 = some 6 := by kernel_rfl
theorem pl63 : XL.placesOf Tryz.prog 63 = some [(0, 2), (2, 3), (5, 1), (6, 1)] := by kernel_rfl
theorem ze63 : XL.zeroOf Tryz.prog 63 = some (.agg #[.slice none 0 0, .slice none 0 0, .slice none 0 0, .slice none 0 0, .slice none 0 0, .slice none 0 0, .slice none 0 0]) := by kernel_rfl
theorem sh65 : XL.shapeOf Tryz.prog 65 = some (false, 1) := by kernel_rfl
theorem sl65 : XL.sliceOf Tryz.prog 65 = some (97, 4, 32) := by kernel_rfl
theorem sh67 : XL.shapeOf Tryz.prog 67 = some (true, 11) := by kernel_rfl
theorem fo67_0 : XL.fieldOff Tryz.prog 67 0 = some 0 := by kernel_rfl
theorem fo67_4 : XL.fieldOff Tryz.prog 67 4 = some 10 := by kernel_rfl
theorem pl67 : XL.placesOf Tryz.prog 67 = some [(0, 7), (7, 1), (8, 1), (9, 1), (10, 1)] := by kernel_rfl
theorem ze67 : XL.zeroOf Tryz.prog 67 = some (.agg #[.slice none 0 0, .slice none 0 0, .slice none 0 0, .slice none 0 0, .slice none 0 0, .slice none 0 0, .slice none 0 0, .int .i64 0, .slice none 0 0, .slice none 0 0, .slice none 0 0]) := by kernel_rfl
theorem sl73 : XL.sliceOf Tryz.prog 73 = some (31, 1, 8) := by kernel_rfl
theorem sl75 : XL.sliceOf Tryz.prog 75 = some (38, 3, 24) := by kernel_rfl
theorem sh77 : XL.shapeOf Tryz.prog 77 = some (true, 7) := by kernel_rfl
theorem fo77_1 : XL.fieldOff Tryz.prog 77 1 = some 1 := by kernel_rfl
theorem pl77 : XL.placesOf Tryz.prog 77 = some [(0, 1), (1, 4), (5, 1), (6, 1)] := by kernel_rfl
theorem ze77 : XL.zeroOf Tryz.prog 77 = some (.agg #[.int .i64 0, .int .u64 0, .int .u64 0, .int .u64 0, .int .u64 0, .slice none 0 0, .slice none 0 0]) := by kernel_rfl
theorem ze90 : XL.zeroOf Tryz.prog 90 = some (.agg #[.int .i64 0, .int .i64 0, .int .i64 0, .int .i64 0, .int .i64 0, .int .i64 0, .int .i64 0, .int .i64 0, .int .i64 0, .int .u64 0, .int .u64 0, .int .u64 0, .int .u64 0, .slice none 0 0, .slice none 0 0, .slice none 0 0, .int .i64 0, .int .u64 0, .int .u64 0, .int .u64 0, .int .u64 0, .slice none 0 0, .slice none 0 0, .slice none 0 0]) := by kernel_rfl
theorem pl97 : XL.placesOf Tryz.prog 97 = some [(0, 1), (1, 1), (2, 1), (3, 1)] := by kernel_rfl
theorem ze97 : XL.zeroOf Tryz.prog 97 = some (.agg #[.int .u64 0, .int .i64 0, .int .i64 0, .bool false]) := by kernel_rfl
theorem fo109_0 : XL.fieldOff Tryz.prog 109 0 = some 0 := by kernel_rfl
theorem fo109_1 : XL.fieldOff Tryz.prog 109 1 = some 2 := by kernel_rfl
theorem pl109 : XL.placesOf Tryz.prog 109 = some [(0, 2), (2, 4)] := by kernel_rfl
theorem ze109 : XL.zeroOf Tryz.prog 109 = some (.agg #[.slice none 0 0, .slice none 0 0, .int .u64 0, .int .u64 0, .int .u64 0, .int .u64 0]) := by kernel_rfl
theorem fo130_0 : XL.fieldOff Tryz.prog 130 0 = some 0 := by kernel_rfl
theorem fo130_1 : XL.fieldOff Tryz.prog 130 1 = some 2 := by kernel_rfl
theorem pl130 : XL.placesOf Tryz.prog 130 = some [(0, 2), (2, 1)] := by kernel_rfl
theorem ze130 : XL.zeroOf Tryz.prog 130 = some (.agg #[.slice none 0 0, .slice none 0 0, .int .i64 0]) := by kernel_rfl
theorem sh138 : XL.shapeOf Tryz.prog 138 = some (true, 9) := by kernel_rfl
theorem ar138 : XL.arrOf Tryz.prog 138 = some (9, 31, 1) := by kernel_rfl
theorem sh140 : XL.shapeOf Tryz.prog 140 = some (true, 16) := by kernel_rfl
theorem fo140_0 : XL.fieldOff Tryz.prog 140 0 = some 0 := by kernel_rfl
theorem fo140_1 : XL.fieldOff Tryz.prog 140 1 = some 1 := by kernel_rfl
theorem fo140_2 : XL.fieldOff Tryz.prog 140 2 = some 2 := by kernel_rfl
theorem fo140_3 : XL.fieldOff Tryz.prog 140 3 = some 3 := by kernel_rfl
theorem fo140_4 : XL.fieldOff Tryz.prog 140 4 = some 4 := by kernel_rfl
theorem fo140_5 : XL.fieldOff Tryz.prog 140 5 = some 5 := by kernel_rfl
theorem fo140_6 : XL.fieldOff Tryz.prog 140 6 = some 14 := by kernel_rfl
theorem fo140_7 : XL.fieldOff Tryz.prog 140 7 = some 15 := by kernel_rfl
theorem pl140 : XL.placesOf Tryz.prog 140 = some [(0, 1), (1, 1), (2, 1), (3, 1), (4, 1), (5, 9), (14, 1), (15, 1)] := by kernel_rfl
theorem fk140 : XL.flatK Tryz.prog 6 140 = some [some .i64, some .i64, some .i64, some .i64, some .i64, some .u64, some .u64, some .u64, some .u64, some .u64, some .u64, some .u64, some .u64, some .u64, some .i64, some .i64] := by kernel_rfl
theorem eg140 : Tryz.prog.eqGuardType Tryz.prog.depth 140 = false := by kernel_rfl
theorem ze140 : XL.zeroOf Tryz.prog 140 = some (.agg #[.int .i64 0, .int .i64 0, .int .i64 0, .int .i64 0, .int .i64 0, .int .u64 0, .int .u64 0, .int .u64 0, .int .u64 0, .int .u64 0, .int .u64 0, .int .u64 0, .int .u64 0, .int .u64 0, .int .i64 0, .int .i64 0]) := by kernel_rfl
theorem pl155 : XL.placesOf Tryz.prog 155 = some [(0, 1), (1, 1)] := by kernel_rfl
theorem ze155 : XL.zeroOf Tryz.prog 155 = some (.agg #[.int .i64 0, .int .i64 0]) := by kernel_rfl
theorem fo173_0 : XL.fieldOff Tryz.prog 173 0 = some 0 := by kernel_rfl
theorem pl173 : XL.placesOf Tryz.prog 173 = some [(0, 11)] := by kernel_rfl
theorem ze173 : XL.zeroOf Tryz.prog 173 = some (.agg #[.slice none 0 0, .slice none 0 0, .slice none 0 0, .slice none 0 0, .slice none 0 0, .slice none 0 0, .slice none 0 0, .int .i64 0, .slice none 0 0, .slice none 0 0, .slice none 0 0]) := by kernel_rfl
theorem sh180 : XL.shapeOf Tryz.prog 180 = some (false, 1) := by kernel_rfl
theorem ze180 : XL.zeroOf Tryz.prog 180 = some (.pointer none) := by kernel_rfl
theorem fo182_0 : XL.fieldOff Tryz.prog 182 0 = some 0 := by kernel_rfl
theorem pl182 : XL.placesOf Tryz.prog 182 = some [(0, 2), (2, 1)] := by kernel_rfl
theorem ze182 : XL.zeroOf Tryz.prog 182 = some (.agg #[.slice none 0 0, .slice none 0 0, .int .i64 0]) := by kernel_rfl
theorem sh183 : XL.shapeOf Tryz.prog 183 = some (false, 1) := by kernel_rfl
theorem ze183 : XL.zeroOf Tryz.prog 183 = some (.nilFunc) := by kernel_rfl
theorem i190 : XL.intOf? Tryz.prog 190 = some .u64 := by kernel_rfl
theorem sl191 : XL.sliceOf Tryz.prog 191 = some (42, 1, 24) := by kernel_rfl
theorem sh193 : XL.shapeOf Tryz.prog 193 = some (false, 1) := by kernel_rfl
theorem fo195_0 : XL.fieldOff Tryz.prog 195 0 = some 0 := by kernel_rfl
theorem fo195_1 : XL.fieldOff Tryz.prog 195 1 = some 2 := by kernel_rfl
theorem pl195 : XL.placesOf Tryz.prog 195 = some [(0, 2), (2, 1)] := by kernel_rfl
theorem ze195 : XL.zeroOf Tryz.prog 195 = some (.agg #[.slice none 0 0, .slice none 0 0, .int .i64 0]) := by kernel_rfl
theorem sh198 : XL.shapeOf Tryz.prog 198 = some (false, 1) := by kernel_rfl
theorem fo244_0 : XL.fieldOff Tryz.prog 244 0 = some 0 := by kernel_rfl
theorem pl244 : XL.placesOf Tryz.prog 244 = some [(0, 2), (2, 1)] := by kernel_rfl
theorem ze244 : XL.zeroOf Tryz.prog 244 = some (.agg #[.slice none 0 0, .slice none 0 0, .int .i64 0]) := by kernel_rfl
theorem sh253 : XL.shapeOf Tryz.prog 253 = some (false, 1) := by kernel_rfl
theorem sl253 : XL.sliceOf Tryz.prog 253 = some (4, 1, 1) := by kernel_rfl
theorem ze253 : XL.zeroOf Tryz.prog 253 = some (.slice none 0 0) := by kernel_rfl
theorem sh272 : XL.shapeOf Tryz.prog 272 = some (true, 6) := by kernel_rfl
theorem fo272_0 : XL.fieldOff Tryz.prog 272 0 = some 0 := by kernel_rfl
theorem fo272_1 : XL.fieldOff Tryz.prog 272 1 = some 1 := by kernel_rfl
theorem fo272_2 : XL.fieldOff Tryz.prog 272 2 = some 2 := by kernel_rfl
theorem fo272_3 : XL.fieldOff Tryz.prog 272 3 = some 3 := by kernel_rfl
theorem fo272_4 : XL.fieldOff Tryz.prog 272 4 = some 4 := by kernel_rfl
theorem fo272_5 : XL.fieldOff Tryz.prog 272 5 = some 5 := by kernel_rfl
theorem pl272 : XL.placesOf Tryz.prog 272 = some [(0, 1), (1, 1), (2, 1), (3, 1), (4, 1), (5, 1)] := by kernel_rfl
theorem ze272 : XL.zeroOf Tryz.prog 272 = some (.agg #[.int .i64 0, .int .i64 0, .bool false, .bool false, .int .i64 0, .bool false]) := by kernel_rfl
theorem ze297 : XL.zeroOf Tryz.prog 297 = some (.agg #[.int .i64 0, .int .i64 0, .int .i64 0, .int .i64 0, .int .i64 0]) := by kernel_rfl
theorem i309 : XL.intOf? Tryz.prog 309 = some .u64 := by kernel_rfl
theorem sh360 : XL.shapeOf Tryz.prog 360 = some (true, 2) := by kernel_rfl
theorem fo360_0 : XL.fieldOff Tryz.prog 360 0 = some 0 := by kernel_rfl
theorem fo360_1 : XL.fieldOff Tryz.prog 360 1 = some 1 := by kernel_rfl
theorem pl360 : XL.placesOf Tryz.prog 360 = some [(0, 1), (1, 1)] := by kernel_rfl
theorem ze360 : XL.zeroOf Tryz.prog 360 = some (.agg #[.int .i64 0, .int .u64 0]) := by kernel_rfl
theorem ar361 : XL.arrOf Tryz.prog 361 = some (3, 360, 2) := by kernel_rfl
theorem ze361 : XL.zeroOf Tryz.prog 361 = some (.agg #[.int .i64 0, .int .u64 0, .int .i64 0, .int .u64 0, .int .i64 0, .int .u64 0]) := by kernel_rfl
theorem ok10 : XL.calleeOK Tryz.prog 10 = true := by kernel_rfl
theorem ok11 : XL.calleeOK Tryz.prog 11 = true := by kernel_rfl
theorem ok12 : XL.calleeOK Tryz.prog 12 = true := by kernel_rfl
theorem ok13 : XL.calleeOK Tryz.prog 13 = true := by kernel_rfl
theorem ok14 : XL.calleeOK Tryz.prog 14 = true := by kernel_rfl
theorem ok15 : XL.calleeOK Tryz.prog 15 = true := by kernel_rfl
theorem ok16 : XL.calleeOK Tryz.prog 16 = true := by kernel_rfl
theorem ok17 : XL.calleeOK Tryz.prog 17 = true := by kernel_rfl
theorem ok18 : XL.calleeOK Tryz.prog 18 = true := by kernel_rfl
theorem ok33 : XL.calleeOK Tryz.prog 33 = true := by kernel_rfl
theorem ok34 : XL.calleeOK Tryz.prog 34 = true := by kernel_rfl
theorem ok35 : XL.calleeOK Tryz.prog 35 = true := by kernel_rfl
theorem ok36 : XL.calleeOK Tryz.prog 36 = true := by kernel_rfl
theorem ok37 : XL.calleeOK Tryz.prog 37 = true := by kernel_rfl
theorem ok38 : XL.calleeOK Tryz.prog 38 = true := by kernel_rfl
theorem ok41 : XL.calleeOK Tryz.prog 41 = true := by kernel_rfl
theorem ok42 : XL.calleeOK Tryz.prog 42 = true := by kernel_rfl
theorem ok43 : XL.calleeOK Tryz.prog 43 = true := by kernel_rfl
theorem ok44 : XL.calleeOK Tryz.prog 44 = true := by kernel_rfl
theorem ok45 : XL.calleeOK Tryz.prog 45 = true := by kernel_rfl
theorem ok46 : XL.calleeOK Tryz.prog 46 = true := by kernel_rfl
theorem ok47 : XL.calleeOK Tryz.prog 47 = true := by kernel_rfl
theorem ok49 : XL.calleeOK Tryz.prog 49 = true := by kernel_rfl
theorem ok50 : XL.calleeOK Tryz.prog 50 = true := by kernel_rfl
theorem ok51 : XL.calleeOK Tryz.prog 51 = true := by kernel_rfl
theorem ok52 : XL.calleeOK Tryz.prog 52 = true := by kernel_rfl
theorem ok53 : XL.calleeOK Tryz.prog 53 = true := by kernel_rfl
theorem ok54 : XL.calleeOK Tryz.prog 54 = true := by kernel_rfl
theorem ok55 : XL.calleeOK Tryz.prog 55 = true := by kernel_rfl
theorem ok56 : XL.calleeOK Tryz.prog 56 = true := by kernel_rfl
theorem ok68 : XL.calleeOK Tryz.prog 68 = true := by kernel_rfl
theorem ok72 : XL.calleeOK Tryz.prog 72 = true := by kernel_rfl
theorem ok73 : XL.calleeOK Tryz.prog 73 = true := by kernel_rfl
theorem ok74 : XL.calleeOK Tryz.prog 74 = true := by kernel_rfl
theorem ok75 : XL.calleeOK Tryz.prog 75 = true := by kernel_rfl
theorem ok76 : XL.calleeOK Tryz.prog 76 = true := by kernel_rfl
theorem ok77 : XL.calleeOK Tryz.prog 77 = true := by kernel_rfl
theorem ok79 : XL.calleeOK Tryz.prog 79 = true := by kernel_rfl
theorem ok80 : XL.calleeOK Tryz.prog 80 = true := by kernel_rfl
theorem ok81 : XL.calleeOK Tryz.prog 81 = true := by kernel_rfl
theorem ok91 : XL.calleeOK Tryz.prog 91 = true := by kernel_rfl
theorem ok93 : XL.calleeOK Tryz.prog 93 = true := by kernel_rfl
theorem ok94 : XL.calleeOK Tryz.prog 94 = true := by kernel_rfl
theorem ok95 : XL.calleeOK Tryz.prog 95 = true := by kernel_rfl
theorem ok96 : XL.calleeOK Tryz.prog 96 = true := by kernel_rfl
theorem ok97 : XL.calleeOK Tryz.prog 97 = true := by kernel_rfl
theorem ok98 : XL.calleeOK Tryz.prog 98 = true := by kernel_rfl
theorem ok99 : XL.calleeOK Tryz.prog 99 = true := by kernel_rfl
theorem ok100 : XL.calleeOK Tryz.prog 100 = true := by kernel_rfl
theorem ok101 : XL.calleeOK Tryz.prog 101 = true := by kernel_rfl
theorem ok102 : XL.calleeOK Tryz.prog 102 = true := by kernel_rfl
theorem ok103 : XL.calleeOK Tryz.prog 103 = true := by kernel_rfl
theorem ok104 : XL.calleeOK Tryz.prog 104 = true := by kernel_rfl
theorem ok107 : XL.calleeOK Tryz.prog 107 = true := by kernel_rfl
theorem ok108 : XL.calleeOK Tryz.prog 108 = true := by kernel_rfl
theorem ok109 : XL.calleeOK Tryz.prog 109 = true := by kernel_rfl
theorem ok110 : XL.calleeOK Tryz.prog 110 = true := by kernel_rfl
theorem ok111 : XL.calleeOK Tryz.prog 111 = true := by kernel_rfl
theorem ok112 : XL.calleeOK Tryz.prog 112 = true := by kernel_rfl
theorem ok113 : XL.calleeOK Tryz.prog 113 = true := by kernel_rfl
theorem ok114 : XL.calleeOK Tryz.prog 114 = true := by kernel_rfl
theorem ok115 : XL.calleeOK Tryz.prog 115 = true := by kernel_rfl
theorem ok116 : XL.calleeOK Tryz.prog 116 = true := by kernel_rfl
theorem ok117 : XL.calleeOK Tryz.prog 117 = true := by kernel_rfl
theorem ok125 : XL.calleeOK Tryz.prog 125 = true := by kernel_rfl
theorem ok126 : XL.calleeOK Tryz.prog 126 = true := by kernel_rfl
theorem ok127 : XL.calleeOK Tryz.prog 127 = true := by kernel_rfl
theorem ok128 : XL.calleeOK Tryz.prog 128 = true := by kernel_rfl
theorem ok129 : XL.calleeOK Tryz.prog 129 = true := by kernel_rfl
theorem ok130 : XL.calleeOK Tryz.prog 130 = true := by kernel_rfl
theorem ok133 : XL.calleeOK Tryz.prog 133 = true := by kernel_rfl
theorem ok134 : XL.calleeOK Tryz.prog 134 = true := by kernel_rfl
theorem ok135 : XL.calleeOK Tryz.prog 135 = true := by kernel_rfl
theorem ok136 : XL.calleeOK Tryz.prog 136 = true := by kernel_rfl
theorem ok137 : XL.calleeOK Tryz.prog 137 = true := by kernel_rfl
theorem ok138 : XL.calleeOK Tryz.prog 138 = true := by kernel_rfl
theorem ok139 : XL.calleeOK Tryz.prog 139 = true := by kernel_rfl
theorem ok140 : XL.calleeOK Tryz.prog 140 = true := by kernel_rfl
theorem ok149 : XL.calleeOK Tryz.prog 149 = true := by kernel_rfl
theorem ok165 : XL.calleeOK Tryz.prog 165 = true := by kernel_rfl
theorem ok166 : XL.calleeOK Tryz.prog 166 = true := by kernel_rfl
theorem ok167 : XL.calleeOK Tryz.prog 167 = true := by kernel_rfl
theorem ok168 : XL.calleeOK Tryz.prog 168 = true := by kernel_rfl
theorem ok169 : XL.calleeOK Tryz.prog 169 = true := by kernel_rfl
theorem ok170 : XL.calleeOK Tryz.prog 170 = true := by kernel_rfl
theorem ok171 : XL.calleeOK Tryz.prog 171 = true := by kernel_rfl
theorem ok182 : XL.calleeOK Tryz.prog 182 = true := by kernel_rfl
theorem ok183 : XL.calleeOK Tryz.prog 183 = true := by kernel_rfl
theorem ok184 : XL.calleeOK Tryz.prog 184 = true := by kernel_rfl
theorem ok185 : XL.calleeOK Tryz.prog 185 = true := by kernel_rfl
theorem ok186 : XL.calleeOK Tryz.prog 186 = true := by kernel_rfl
theorem ok187 : XL.calleeOK Tryz.prog 187 = true := by kernel_rfl
theorem ok188 : XL.calleeOK Tryz.prog 188 = true := by kernel_rfl
theorem ok189 : XL.calleeOK Tryz.prog 189 = true := by kernel_rfl
theorem ok190 : XL.calleeOK Tryz.prog 190 = true := by kernel_rfl
theorem ok193 : XL.calleeOK Tryz.prog 193 = true := by kernel_rfl
theorem ok194 : XL.calleeOK Tryz.prog 194 = true := by kernel_rfl
theorem ok195 : XL.calleeOK Tryz.prog 195 = true := by kernel_rfl
theorem ok196 : XL.calleeOK Tryz.prog 196 = true := by kernel_rfl
theorem ok197 : XL.calleeOK Tryz.prog 197 = true := by kernel_rfl
theorem ok200 : XL.calleeOK Tryz.prog 200 = true := by kernel_rfl
theorem ok201 : XL.calleeOK Tryz.prog 201 = true := by kernel_rfl
theorem ok202 : XL.calleeOK Tryz.prog 202 = true := by kernel_rfl
theorem ok203 : XL.calleeOK Tryz.prog 203 = true := by kernel_rfl
theorem ok204 : XL.calleeOK Tryz.prog 204 = true := by kernel_rfl
theorem ok205 : XL.calleeOK Tryz.prog 205 = true := by kernel_rfl
theorem ok206 : XL.calleeOK Tryz.prog 206 = true := by kernel_rfl
theorem ok207 : XL.calleeOK Tryz.prog 207 = true := by kernel_rfl
theorem ok208 : XL.calleeOK Tryz.prog 208 = true := by kernel_rfl
theorem ok209 : XL.calleeOK Tryz.prog 209 = true := by kernel_rfl
theorem ok210 : XL.calleeOK Tryz.prog 210 = true := by kernel_rfl
theorem ok211 : XL.calleeOK Tryz.prog 211 = true := by kernel_rfl
theorem ok219 : XL.calleeOK Tryz.prog 219 = true := by kernel_rfl
theorem ok229 : XL.calleeOK Tryz.prog 229 = true := by kernel_rfl
theorem ok230 : XL.calleeOK Tryz.prog 230 = true := by kernel_rfl
theorem ok231 : XL.calleeOK Tryz.prog 231 = true := by kernel_rfl
theorem ok232 : XL.calleeOK Tryz.prog 232 = true := by kernel_rfl
theorem ok238 : XL.calleeOK Tryz.prog 238 = true := by kernel_rfl
theorem ok239 : XL.calleeOK Tryz.prog 239 = true := by kernel_rfl
theorem ok240 : XL.calleeOK Tryz.prog 240 = true := by kernel_rfl
theorem ok241 : XL.calleeOK Tryz.prog 241 = true := by kernel_rfl
theorem ok242 : XL.calleeOK Tryz.prog 242 = true := by kernel_rfl
theorem ok243 : XL.calleeOK Tryz.prog 243 = true := by kernel_rfl
theorem ok245 : XL.calleeOK Tryz.prog 245 = true := by kernel_rfl
theorem ok247 : XL.calleeOK Tryz.prog 247 = true := by kernel_rfl
theorem ok248 : XL.calleeOK Tryz.prog 248 = true := by kernel_rfl
theorem ok249 : XL.calleeOK Tryz.prog 249 = true := by kernel_rfl
theorem ok253 : XL.calleeOK Tryz.prog 253 = true := by kernel_rfl
theorem ok254 : XL.calleeOK Tryz.prog 254 = true := by kernel_rfl
theorem ok276 : XL.calleeOK Tryz.prog 276 = true := by kernel_rfl
open Go Go.XL
def U64 (r : Int) : Prop := 0 ≤ r ∧ r < 18446744073709551616
def I64 (r : Int) : Prop := -9223372036854775808 ≤ r ∧ r ≤ 9223372036854775807
theorem tmodE {a b : Int} (h : 0 ≤ a) : a.tmod b = a % b := Int.tmod_eq_emod_of_nonneg h
theorem tdivE {a b : Int} (h : 0 ≤ a) : a.tdiv b = a / b := Int.tdiv_eq_ediv_of_nonneg h

def rightR (r : Int) : Bool := decide (r = 0 ∨ 1 ≤ r % 65536 ∧ r % 65536 ≤ 512 ∧ r / 65536 ≤ 1048576)
def nodeR (r : Int) : Prop := ¬ r = 0 ∧ rightR r = true
instance (r : Int) : Decidable (nodeR r) := inferInstanceAs (Decidable (_ ∧ _))
def placeR (r : Int) : Int := if nodeR r then r % 65536 - 1 else -1
def genR (r : Int) : Int := if nodeR r then r / 65536 else 0
def isR (p g : Int) : Bool := decide (0 ≤ p ∧ p < 512 ∧ 0 ≤ g ∧ g ≤ 1048576)
def ofR (p g : Int) : Int := g * 65536 + p + 1

theorem rightR_iff (r : Int) : rightR r = true ↔ (r = 0 ∨ 1 ≤ r % 65536 ∧ r % 65536 ≤ 512 ∧ r / 65536 ≤ 1048576) := by
  unfold rightR; exact decide_eq_true_iff
theorem nodeR_iff (r : Int) : nodeR r ↔ (¬ r = 0 ∧ 1 ≤ r % 65536 ∧ r % 65536 ≤ 512 ∧ r / 65536 ≤ 1048576) := by
  unfold nodeR; rw [rightR_iff]
  constructor
  · rintro ⟨h1, h2⟩; exact ⟨h1, h2.resolve_left h1⟩
  · rintro ⟨h1, h2⟩; exact ⟨h1, .inr h2⟩

theorem c_refRight (r : Int) (hr : U64 r) (w : World) : FC Tryz.prog 239 [.int .u64 r] w (Val (.bool (rightR r)) w) := by
 unfold U64 at hr
 refine FC.intro Tryz.func239 rfl Tryz.ntmps239 rfl ?_
 have S := Sub.refl w
 refine RC.seq (RC.region rfl ?_);refine RL.asS rfl ?_;refine RL.nil (RC.back (RC.seq (RC.region rfl ?_)));refine RL.mvS rfl ?_;refine RL.eS (.as (v' := .int .u64 (r % 65536)) (.rem rfl rfl (by decide)) (by rw [tmodE hr.1])) ?_;refine RL.asS rfl ?_;refine RL.nil (RC.back (RC.seq (RC.region rfl ?_)));refine RL.mvS rfl ?_;refine RL.eS (.bin rfl rfl rfl) ?_;refine RL.mvS rfl ?_;refine RL.split 8 rfl (fun h1 => ?_) (fun h1 => ?_)
 ·
  refine RL.offs 11 rfl ?_;refine RL.eS (.pick_t rfl rfl) ?_;refine RL.asS rfl ?_;refine RL.nil (RC.back ?_);refine RC.d1 2 rfl rfl rfl ?_
  first | exact ⟨congrArg Value.bool (decide_eq_true (by omega)).symm, S⟩ | exact ⟨congrArg Value.bool (decide_eq_false (by omega)).symm, S⟩ | exact ⟨congrArg Value.bool (decide_eq_decide.2 (by omega)), S⟩
 ·
  refine RL.mvS rfl ?_;refine RL.eS (.bin rfl rfl rfl) ?_;refine RL.mvS rfl ?_;refine RL.split 11 rfl (fun h2 => ?_) (fun h2 => ?_)
  ·
   refine RL.mvS rfl ?_;refine RL.eS (.bin rfl rfl rfl) ?_;refine RL.eS (.pick_t rfl rfl) ?_;refine RL.mvS rfl ?_;refine RL.split 15 rfl (fun h3 => ?_) (fun h3 => ?_)
   ·
    refine RL.mvS rfl ?_;refine RL.eS (.as (.quo rfl rfl (by decide)) (wu64 (y := r / 65536) (by exact tdivE hr.1) (by omega))) ?_;refine RL.eS (.bin rfl rfl rfl) ?_;refine RL.eS (.pick_t rfl rfl) ?_;refine RL.eS (.pick_f rfl rfl) ?_;refine RL.asS rfl ?_;refine RL.nil (RC.back ?_);refine RC.d1 2 rfl rfl rfl ?_
    first | exact ⟨congrArg Value.bool (decide_eq_true (by omega)).symm, S⟩ | exact ⟨congrArg Value.bool (decide_eq_false (by omega)).symm, S⟩ | exact ⟨congrArg Value.bool (decide_eq_decide.2 (by omega)), S⟩
   ·
    refine RL.offs 3 rfl ?_;refine RL.eS (.pick_f rfl rfl) ?_;refine RL.eS (.pick_f rfl rfl) ?_;refine RL.asS rfl ?_;refine RL.nil (RC.back ?_);refine RC.d1 2 rfl rfl rfl ?_
    first | exact ⟨congrArg Value.bool (decide_eq_true (by omega)).symm, S⟩ | exact ⟨congrArg Value.bool (decide_eq_false (by omega)).symm, S⟩ | exact ⟨congrArg Value.bool (decide_eq_decide.2 (by omega)), S⟩
  ·
   refine RL.offs 2 rfl ?_;refine RL.eS (.pick_f rfl rfl) ?_;refine RL.mvS rfl ?_;refine RL.offs 3 rfl ?_;refine RL.eS (.pick_f rfl rfl) ?_;refine RL.eS (.pick_f rfl rfl) ?_;refine RL.asS rfl ?_;refine RL.nil (RC.back ?_);refine RC.d1 2 rfl rfl rfl ?_
   first | exact ⟨congrArg Value.bool (decide_eq_true (by omega)).symm, S⟩ | exact ⟨congrArg Value.bool (decide_eq_false (by omega)).symm, S⟩ | exact ⟨congrArg Value.bool (decide_eq_decide.2 (by omega)), S⟩
theorem c_bitsPlace (r : Int) (hr : U64 r) (w : World) : FC Tryz.prog 231 [.int .u64 r] w (Val (.int .i64 (r % 65536 - 1)) w) := by
 unfold U64 at hr
 refine FC.intro Tryz.func231 rfl Tryz.ntmps231 rfl ?_
 have S := Sub.refl w
 refine RC.seq (RC.region rfl ?_);refine RL.asS rfl ?_;refine RL.nil (RC.back (RC.seq (RC.region rfl ?_)));refine RL.mvS rfl ?_;refine RL.eS (.as (v' := .int .u64 (r % 65536)) (.rem rfl rfl (by decide)) (by rw [tmodE hr.1])) ?_;refine RL.eS (.as (.conv i309 i3 rfl) (wi64 (y := r % 65536) (by rfl) (by omega))) ?_;refine RL.eS (.as (.bin rfl rfl rfl) (wi64 (y := r % 65536 - 1) (by rfl) (by omega))) ?_;refine RL.asS rfl ?_;refine RL.nil (RC.back ?_);refine RC.d1 2 rfl rfl rfl ?_
 exact ⟨rfl, S⟩
theorem c_bitsGen (r : Int) (hr : U64 r) (w : World) : FC Tryz.prog 247 [.int .u64 r] w (Val (.int .i64 (r / 65536)) w) := by
 unfold U64 at hr
 refine FC.intro Tryz.func247 rfl Tryz.ntmps247 rfl ?_
 have S := Sub.refl w
 refine RC.seq (RC.region rfl ?_);refine RL.asS rfl ?_;refine RL.nil (RC.back (RC.seq (RC.region rfl ?_)));refine RL.mvS rfl ?_;refine RL.eS (.as (.quo rfl rfl (by decide)) (wu64 (y := r / 65536) (by exact tdivE hr.1) (by omega))) ?_;refine RL.eS (.as (.conv i309 i3 rfl) (wi64 (y := r / 65536) (by rfl) (by omega))) ?_;refine RL.asS rfl ?_;refine RL.nil (RC.back ?_);refine RC.d1 2 rfl rfl rfl ?_
 exact ⟨rfl, S⟩
theorem c_tellsPlace (r : Int) (hr : U64 r) (w : World) : FC Tryz.prog 230 [.int .u64 r, .func (.func 231) #[] #[], .int .i64 (-1)] w (Val (.int .i64 (placeR r)) w) := by
 refine FC.intro Tryz.func230 rfl Tryz.ntmps230 rfl ?_
 have S := Sub.refl w
 refine RC.seq (RC.region rfl ?_);refine RL.asS rfl ?_;refine RL.nil (RC.back (RC.seq (RC.seq (RC.region rfl ?_))));refine RL.mvS rfl ?_;refine RL.eS (.bin rfl rfl rfl) ?_;refine RL.mvS rfl ?_;refine RL.split 9 rfl (fun h1 => ?_) (fun h1 => ?_)
 ·
  refine RL.offs 3 rfl ?_;refine RL.eS (.pick_t rfl rfl) ?_;refine RL.nil (RC.back ?_);refine RC.cond_t rfl ?_;refine RC.seq (RC.region rfl ?_);refine RL.mvS rfl ?_;refine RL.asS rfl ?_;refine RL.nil (RC.back ?_);refine RC.d1 6 rfl rfl rfl ?_
  first | exact ⟨congrArg (Value.int .i64) (if_neg (fun h : nodeR r => by first | exact h.1 (by assumption) | simp_all [h.2])).symm, S⟩ | exact ⟨congrArg (Value.int .i64) (if_pos (show nodeR r from ⟨by assumption, by simpa using ‹(!rightR r) = false›⟩)).symm, S⟩
 ·
  refine RL.mvS rfl ?_;refine RL.call rfl ok239 (c_refRight r hr w) rfl rfl ?_;rintro _ w2 ⟨rfl, s3⟩;have S := S.trans s3;refine RL.eS (.not rfl) ?_;refine RL.eS (.pick_f rfl rfl) ?_;refine RL.nil (RC.back ?_);refine RC.cond rfl (fun h4 => ?_) (fun h4 => ?_)
  ·
   refine RC.seq (RC.region rfl ?_);refine RL.mvS rfl ?_;refine RL.asS rfl ?_;refine RL.nil (RC.back ?_);refine RC.d1 6 rfl rfl rfl ?_
   first | exact ⟨congrArg (Value.int .i64) (if_neg (fun h : nodeR r => by first | exact h.1 (by assumption) | simp_all [h.2])).symm, S⟩ | exact ⟨congrArg (Value.int .i64) (if_pos (show nodeR r from ⟨by assumption, by simpa using ‹(!rightR r) = false›⟩)).symm, S⟩
  ·
   refine RC.skip (RC.back (RC.seq (RC.region rfl ?_)));refine RL.mvS rfl ?_;refine RL.mvS rfl ?_;refine RL.callv rfl rfl (us := []) (cs := []) ok231 (c_bitsPlace r hr w2) rfl rfl ?_;rintro _ w5 ⟨rfl, s6⟩;have S := S.trans s6;refine RL.asS rfl ?_;refine RL.nil (RC.back ?_);refine RC.d1 6 rfl rfl rfl ?_
   first | exact ⟨congrArg (Value.int .i64) (if_neg (fun h : nodeR r => by first | exact h.1 (by assumption) | simp_all [h.2])).symm, S⟩ | exact ⟨congrArg (Value.int .i64) (if_pos (show nodeR r from ⟨by assumption, by simpa using ‹(!rightR r) = false›⟩)).symm, S⟩
theorem c_tellsGen (r : Int) (hr : U64 r) (w : World) : FC Tryz.prog 230 [.int .u64 r, .func (.func 247) #[] #[], .int .i64 0] w (Val (.int .i64 (genR r)) w) := by
 refine FC.intro Tryz.func230 rfl Tryz.ntmps230 rfl ?_
 have S := Sub.refl w
 refine RC.seq (RC.region rfl ?_);refine RL.asS rfl ?_;refine RL.nil (RC.back (RC.seq (RC.seq (RC.region rfl ?_))));refine RL.mvS rfl ?_;refine RL.eS (.bin rfl rfl rfl) ?_;refine RL.mvS rfl ?_;refine RL.split 9 rfl (fun h1 => ?_) (fun h1 => ?_)
 ·
  refine RL.offs 3 rfl ?_;refine RL.eS (.pick_t rfl rfl) ?_;refine RL.nil (RC.back ?_);refine RC.cond_t rfl ?_;refine RC.seq (RC.region rfl ?_);refine RL.mvS rfl ?_;refine RL.asS rfl ?_;refine RL.nil (RC.back ?_);refine RC.d1 6 rfl rfl rfl ?_
  first | exact ⟨congrArg (Value.int .i64) (if_neg (fun h : nodeR r => by first | exact h.1 (by assumption) | simp_all [h.2])).symm, S⟩ | exact ⟨congrArg (Value.int .i64) (if_pos (show nodeR r from ⟨by assumption, by simpa using ‹(!rightR r) = false›⟩)).symm, S⟩
 ·
  refine RL.mvS rfl ?_;refine RL.call rfl ok239 (c_refRight r hr w) rfl rfl ?_;rintro _ w2 ⟨rfl, s3⟩;have S := S.trans s3;refine RL.eS (.not rfl) ?_;refine RL.eS (.pick_f rfl rfl) ?_;refine RL.nil (RC.back ?_);refine RC.cond rfl (fun h4 => ?_) (fun h4 => ?_)
  ·
   refine RC.seq (RC.region rfl ?_);refine RL.mvS rfl ?_;refine RL.asS rfl ?_;refine RL.nil (RC.back ?_);refine RC.d1 6 rfl rfl rfl ?_
   first | exact ⟨congrArg (Value.int .i64) (if_neg (fun h : nodeR r => by first | exact h.1 (by assumption) | simp_all [h.2])).symm, S⟩ | exact ⟨congrArg (Value.int .i64) (if_pos (show nodeR r from ⟨by assumption, by simpa using ‹(!rightR r) = false›⟩)).symm, S⟩
  ·
   refine RC.skip (RC.back (RC.seq (RC.region rfl ?_)));refine RL.mvS rfl ?_;refine RL.mvS rfl ?_;refine RL.callv rfl rfl (us := []) (cs := []) ok247 (c_bitsGen r hr w2) rfl rfl ?_;rintro _ w5 ⟨rfl, s6⟩;have S := S.trans s6;refine RL.asS rfl ?_;refine RL.nil (RC.back ?_);refine RC.d1 6 rfl rfl rfl ?_
   first | exact ⟨congrArg (Value.int .i64) (if_neg (fun h : nodeR r => by first | exact h.1 (by assumption) | simp_all [h.2])).symm, S⟩ | exact ⟨congrArg (Value.int .i64) (if_pos (show nodeR r from ⟨by assumption, by simpa using ‹(!rightR r) = false›⟩)).symm, S⟩
theorem c_refPlace (r : Int) (hr : U64 r) (w : World) : FC Tryz.prog 169 [.int .u64 r] w (Val (.int .i64 (placeR r)) w) := by
 refine FC.intro Tryz.func169 rfl Tryz.ntmps169 rfl ?_
 have S := Sub.refl w
 refine RC.seq (RC.region rfl ?_);refine RL.asS rfl ?_;refine RL.nil (RC.back (RC.seq (RC.region rfl ?_)));refine RL.mvS rfl ?_;refine RL.call rfl ok230 (c_tellsPlace r hr w) rfl rfl ?_;rintro _ w1 ⟨rfl, s2⟩;have S := S.trans s2;refine RL.asS rfl ?_;refine RL.nil (RC.back ?_);refine RC.d1 2 rfl rfl rfl ?_
 exact ⟨rfl, S⟩
theorem c_refGen (r : Int) (hr : U64 r) (w : World) : FC Tryz.prog 193 [.int .u64 r] w (Val (.int .i64 (genR r)) w) := by
 refine FC.intro Tryz.func193 rfl Tryz.ntmps193 rfl ?_
 have S := Sub.refl w
 refine RC.seq (RC.region rfl ?_);refine RL.asS rfl ?_;refine RL.nil (RC.back (RC.seq (RC.region rfl ?_)));refine RL.mvS rfl ?_;refine RL.call rfl ok230 (c_tellsGen r hr w) rfl rfl ?_;rintro _ w1 ⟨rfl, s2⟩;have S := S.trans s2;refine RL.asS rfl ?_;refine RL.nil (RC.back ?_);refine RC.d1 2 rfl rfl rfl ?_
 exact ⟨rfl, S⟩
theorem isR_iff (p g : Int) : isR p g = true ↔ 0 ≤ p ∧ p < 512 ∧ 0 ≤ g ∧ g ≤ 1048576 := by unfold isR; exact decide_eq_true_iff
theorem c_refOf' (p g : Int) (h : isR p g = true) (w : World) : FC Tryz.prog 254 [.int .i64 p, .int .i64 g] w (Val (.tuple #[.int .u64 (ofR p g), .int .i64 0]) w) := by
 have hp := (isR_iff p g).1 h
 refine FC.intro Tryz.func254 rfl Tryz.ntmps254 rfl ?_
 have S := Sub.refl w
 refine RC.seq (RC.region rfl ?_);refine RL.asS rfl ?_;refine RL.asS rfl ?_;refine RL.nil (RC.back (RC.seq (RC.seq (RC.region rfl ?_))));refine RL.mvS rfl ?_;refine RL.eS (.as (v' := .bool false) (.bin rfl rfl rfl) (congrArg Value.bool (decide_eq_false (by omega)))) ?_;refine RL.mvS rfl ?_;refine RL.mvS rfl ?_;refine RL.eS (.as (v' := .bool false) (.bin rfl rfl rfl) (congrArg Value.bool (decide_eq_false (by omega)))) ?_;refine RL.eS (.pick_f rfl rfl) ?_;refine RL.mvS rfl ?_;refine RL.mvS rfl ?_;refine RL.eS (.as (v' := .bool false) (.bin rfl rfl rfl) (congrArg Value.bool (decide_eq_false (by omega)))) ?_;refine RL.eS (.pick_f rfl rfl) ?_;refine RL.mvS rfl ?_;refine RL.mvS rfl ?_;refine RL.eS (.as (v' := .bool false) (.bin rfl rfl rfl) (congrArg Value.bool (decide_eq_false (by omega)))) ?_;refine RL.eS (.pick_f rfl rfl) ?_;refine RL.nil (RC.back ?_);refine RC.cond_f rfl ?_;refine RC.skip (RC.back (RC.seq (RC.region rfl ?_)));refine RL.mvS rfl ?_;refine RL.eS (.as (.bin rfl rfl rfl) (wi64 (y := g * 65536) (by rfl) (by omega))) ?_;refine RL.mvS rfl ?_;refine RL.eS (.as (.bin rfl rfl rfl) (wi64 (y := g * 65536 + p) (by rfl) (by omega))) ?_;refine RL.eS (.as (.bin rfl rfl rfl) (wi64 (y := g * 65536 + p + 1) (by rfl) (by omega))) ?_;refine RL.eS (.as (.conv i3 i31 rfl) (wu64 (y := g * 65536 + p + 1) (by rfl) (by omega))) ?_;refine RL.asS rfl ?_;refine RL.asS rfl ?_;refine RL.nil (RC.back ?_);refine RC.done (rs := [.tmp 4, .tmp 5]) (vs := [_, _]) rfl rfl ⟨rfl, rfl, trivial⟩ ?_
 exact ⟨rfl, S⟩
theorem ofR_U64 {p g : Int} (h : isR p g = true) : U64 (ofR p g) := by
  have hp := (isR_iff p g).1 h
  unfold U64 ofR; omega
theorem ofR_node {p g : Int} (h : isR p g = true) : nodeR (ofR p g) := by
  have hp := (isR_iff p g).1 h
  rw [nodeR_iff]; unfold ofR; omega
theorem placeR_of {p g : Int} (h : isR p g = true) : placeR (ofR p g) = p := by
  have hp := (isR_iff p g).1 h
  rw [placeR, if_pos (ofR_node h)]; unfold ofR; omega
theorem genR_of {p g : Int} (h : isR p g = true) : genR (ofR p g) = g := by
  have hp := (isR_iff p g).1 h
  rw [genR, if_pos (ofR_node h)]; unfold ofR; omega

end Go.Proofs.YtbjmllnddanniaaGreat
set_option linter.unusedVariables false
set_option linter.unusedSimpArgs false
set_option maxRecDepth 4000
namespace Go.Proofs.YtbjmllnddanniaaGreat
open Go Go.XL
structure Node where
  kind : Int
  gen : Int
  n : Int
  v : Int
  s : Int
  k0 : Int
  k1 : Int
  k2 : Int
  k3 : Int
  k4 : Int
  k5 : Int
  k6 : Int
  k7 : Int
  k8 : Int
  pre : Int
  suf : Int
  deriving DecidableEq

def u6 (x : Int) : Value := .int .u64 x
def i6 (x : Int) : Value := .int .i64 x
def Node.kids (x : Node) : List Int := [x.k0, x.k1, x.k2, x.k3, x.k4, x.k5, x.k6, x.k7, x.k8]
def Node.cells (x : Node) : List Value :=
  [.int .i64 x.kind, .int .i64 x.gen, .int .i64 x.n, .int .i64 x.v, .int .i64 x.s, .int .u64 x.k0, .int .u64 x.k1, .int .u64 x.k2, .int .u64 x.k3, .int .u64 x.k4, .int .u64 x.k5, .int .u64 x.k6, .int .u64 x.k7, .int .u64 x.k8, .int .i64 x.pre, .int .i64 x.suf]
def Node.val (x : Node) : Value := .agg x.cells.toArray
def bareN (g : Int) : Node := ⟨0, g, 0, 0, 0, 0, 0, 0, 0, 0, 0, 0, 0, 0, 0, 0⟩
structure Node.ok (x : Node) : Prop where
  kind : I64 x.kind
  gen : I64 x.gen
  n : I64 x.n
  v : I64 x.v
  s : I64 x.s
  kids : ∀ k ∈ x.kids, U64 k
  pre : I64 x.pre
  suf : I64 x.suf
theorem z64 : I64 0 := by unfold I64; omega
theorem zu64 : U64 0 := by unfold U64; omega
theorem bareN_ok {g : Int} (h : I64 g) : (bareN g).ok :=
  ⟨z64, h, z64, z64, z64, fun k hk => by
    simp [Node.kids, bareN] at hk
    subst hk
    exact zu64, z64, z64⟩
theorem getSome {α : Type} {l : List α} {i : Nat} (h : i < l.length) : ∃ x, l[i]? = some x := ⟨_, List.getElem?_eq_getElem h⟩
theorem lt_of_get {α : Type} {l : List α} {i : Nat} {x : α} (h : l[i]? = some x) : i < l.length := by
  rcases Nat.lt_or_ge i l.length with q | q
  · exact q
  · rw [List.getElem?_eq_none q] at h; cases h
theorem getElem_of {α : Type} {l : List α} {i : Nat} {x : α} (h : l[i]? = some x) (hi : i < l.length) : l[i] = x := by
  rw [List.getElem?_eq_getElem hi] at h; cases h; rfl

def well (x : Node) : Bool := decide (0 ≤ x.gen ∧ x.gen ≤ 1048576 ∧ 0 ≤ x.pre ∧ x.pre ≤ 9 ∧ 0 ≤ x.suf ∧ x.suf ≤ 9) && x.kids.all rightR
theorem well_iff (x : Node) : well x = true ↔ (0 ≤ x.gen ∧ x.gen ≤ 1048576 ∧ 0 ≤ x.pre ∧ x.pre ≤ 9 ∧ 0 ≤ x.suf ∧ x.suf ≤ 9) ∧ x.kids.all rightR = true := by
  unfold well; rw [Bool.and_eq_true, decide_eq_true_iff]

structure Ar where
  nodes : List Node
  free : List Int
structure AOk (A : Ar) : Prop where
  one : 1 ≤ A.nodes.length
  most : A.nodes.length ≤ 512
  fit : A.free.length ≤ A.nodes.length
  free : ∀ x ∈ A.free, 0 ≤ x ∧ x < A.nodes.length
  nodup : A.free.Nodup
  well : ∀ x ∈ A.nodes, well x = true
  kind : ∀ (i : Nat) x, A.nodes[i]? = some x → (x.kind = 0 ↔ (i : Int) ∈ A.free)
  bare : ∀ (i : Nat) x, A.nodes[i]? = some x → (i : Int) ∈ A.free → x = bareN x.gen

structure ArR (w : World) (na fa : Option Addr) (A : Ar) : Prop where
  nodes : Sl w na 16 (A.nodes.map Node.cells)
  free : Sl w fa 1 (A.free.map fun x => [i6 x])
  nok : ∀ x ∈ A.nodes, x.ok
  fok : ∀ x ∈ A.free, I64 x
theorem ArR.sub {w w' na fa A} (h : ArR w na fa A) (s : Sub w w') : ArR w' na fa A := ⟨h.nodes.sub s, h.free.sub s, h.nok, h.fok⟩
def arV (na fa : Option Addr) (nc fc : Nat) (A : Ar) : Value := .agg #[.slice na A.nodes.length nc, .slice fa A.free.length fc]

theorem c_well1 (r : Int) (hr : U64 r) (w : World) : FC Tryz.prog 238 [.int .u64 r] w (Val (.bool (!rightR r)) w) := by
 refine FC.intro Tryz.func238 rfl Tryz.ntmps238 rfl ?_
 have S := Sub.refl w
 refine RC.seq (RC.region rfl ?_);refine RL.asS rfl ?_;refine RL.nil (RC.back (RC.seq (RC.region rfl ?_)));refine RL.mvS rfl ?_;refine RL.call rfl ok239 (c_refRight r hr w) rfl rfl ?_;rintro _ w1 ⟨rfl, s2⟩;have S := S.trans s2;refine RL.eS (.not rfl) ?_;refine RL.asS rfl ?_;refine RL.nil (RC.back ?_);refine RC.d1 2 rfl rfl rfl ?_
 exact ⟨rfl, S⟩

def idxOf {α : Type} (p : α → Bool) (l : List α) : Int := if l.any p then (l.findIdx p : Int) else -1
theorem c_indexRef (p : Int → Bool) (l : List Int) (a : Option Addr) (c : Nat) (f : FuncId) (hf : calleeOK Tryz.prog f = true) (us cs : List Value) (w : World) (hs : Sl w a 1 (l.map fun x => [u6 x])) (hlen : l.length ≤ 1000000)
  (hp : ∀ x ∈ l, ∀ w', Sub w w' → FC Tryz.prog f (us ++ [u6 x] ++ cs) w' (Val (.bool (p x)) w')) :
  FC Tryz.prog 241 [.slice a l.length c, .func (.func f) us.toArray cs.toArray] w (Val (.int .i64 (idxOf p l)) w) := by
 refine FC.intro Tryz.func241 rfl Tryz.ntmps241 rfl ?_
 have S := Sub.refl w
 refine RC.seq (RC.region rfl ?_);refine RL.asS rfl ?_;refine RL.nil (RC.back (RC.seq (RC.seq (RC.region rfl ?_))));refine RL.mvS rfl ?_;refine RL.eS (.len sl73 rfl) ?_;refine RL.mvS rfl ?_;refine RL.nil (RC.back (RC.block ?_));refine RC.loop (α := Nat) (fun i => [(0, .slice a l.length c), (1, .func (.func f) us.toArray cs.toArray), (7, .int .i64 (l.length : Int)), (8, .int .i64 (i : Int))]) (fun i w1 => i ≤ l.length ∧ (∀ j x, l[j]? = some x → j < i → p x = false) ∧ Sub w w1) (fun i => l.length - i) 0 (keep_of (by repeat (first | exact trivial | refine And.intro rfl ?_))) (⟨Nat.zero_le _, fun j x _ h => absurd h (by omega), S⟩) (fun i w1 hJ => ?_)
 obtain ⟨hi, hn, S⟩ := hJ
 refine RC.seq (RC.region rfl ?_);refine RL.eS (.bin rfl rfl rfl) ?_;refine RL.nil (RC.back (RC.seq ?_));refine RC.cond_dec rfl (fun h2 => ?_) (fun h2 => ?_)
 ·
  obtain ⟨x, hx⟩ := getSome (l := l) (i := i) (by omega)
  refine RC.skip (RC.back (RC.seq (RC.block (RC.seq (RC.region rfl ?_)))));refine RL.mvS rfl ?_;refine RL.asS rfl ?_;refine RL.nil (RC.back (RC.seq (RC.region rfl ?_)));refine RL.mvS rfl ?_;refine RL.mvS rfl ?_;refine RL.mvS rfl ?_;refine RL.eS (.indexS sl73 rfl rfl (by omega) (hs.is (i := 0) (by simp only [List.length_map, List.length_cons, List.length_nil]; omega))) ?_;refine RL.eS (.load1 sh31 rfl ((hs.sub S).one (enc := u6) (i := i) hx)) ?_;refine RL.callv rfl rfl (us := us) (cs := cs) hf (hp x (List.mem_of_getElem? hx) _ S) rfl rfl ?_;rintro _ w3 ⟨rfl, s4⟩;have S := S.trans s4;refine RL.nil (RC.back ?_);refine RC.cond rfl (fun h5 => ?_) (fun h5 => ?_)
  ·
   have hv := h5
   refine RC.seq (RC.region rfl ?_);refine RL.mvS rfl ?_;refine RL.asS rfl ?_;refine RL.nil (RC.back ?_);refine RC.d1 4 rfl rfl rfl ?_
   refine ⟨?_, S⟩
   show Value.int .i64 _ = _
   congr 1
   rw [idxOf, if_pos (List.any_eq_true.2 ⟨x, List.mem_of_getElem? hx, hv⟩)]
   congr 1
   symm
   have hlt := lt_of_get hx
   rw [List.findIdx_eq hlt]
   exact ⟨by rw [getElem_of hx hlt]; exact hv, fun j hj => hn j _ (List.getElem?_eq_getElem (by omega)) hj⟩
  ·
   have hv := h5
   refine RC.skip (RC.back (RC.region rfl ?_));refine RL.eS (.as (.bin rfl rfl rfl) (wi64 (y := ((i + 1 : Nat) : Int)) (by omega) (by omega))) ?_;refine RL.mvS rfl ?_
   exact RL.nil (fun a ka => ⟨i + 1, ⟨by omega, fun j x hj h => (Nat.lt_succ_iff_lt_or_eq.1 h).elim (hn j x hj) (fun e => by subst e; rw [hx] at hj; cases hj; exact hv), S⟩, by omega, ka.keep (keep_of (by repeat (first | exact trivial | refine And.intro rfl ?_)))⟩)
 ·
  refine RC.exit rfl (RC.back (RC.seq (RC.region rfl ?_)));refine RL.asS rfl ?_;refine RL.nil (RC.back ?_);refine RC.d1 4 rfl rfl rfl ?_
  refine ⟨?_, S⟩
  show Value.int .i64 _ = _
  congr 1
  rw [idxOf, if_neg]
  intro hh
  obtain ⟨x, hx, hpx⟩ := List.any_eq_true.1 hh
  obtain ⟨j, hj, rfl⟩ := List.getElem_of_mem hx
  have := hn j _ (List.getElem?_eq_getElem hj) (by omega)
  rw [this] at hpx
  cases hpx

theorem c_containsRef (p : Int → Bool) (l : List Int) (a : Option Addr) (c : Nat) (f : FuncId) (hf : calleeOK Tryz.prog f = true) (us cs : List Value) (w : World) (hs : Sl w a 1 (l.map fun x => [u6 x])) (hlen : l.length ≤ 1000000)
    (hp : ∀ x ∈ l, ∀ w', Sub w w' → FC Tryz.prog f (us ++ [u6 x] ++ cs) w' (Val (.bool (p x)) w')) :
    FC Tryz.prog 186 [.slice a l.length c, .func (.func f) us.toArray cs.toArray] w (Val (.bool (l.any p)) w) := by
  refine FC.intro Tryz.func186 rfl Tryz.ntmps186 rfl ?_
  have S := Sub.refl w
  refine RC.seq (RC.region rfl ?_);refine RL.asS rfl ?_;refine RL.nil (RC.back (RC.seq (RC.region rfl ?_)));refine RL.mvS rfl ?_;refine RL.mvS rfl ?_;refine RL.call rfl ok241 (c_indexRef p l a c f hf us cs w (hs.sub S) hlen (fun x hx w' s => hp x hx w' (S.trans s))) rfl rfl ?_;rintro _ w1 ⟨rfl, s2⟩;have S := S.trans s2;refine RL.eS (.bin rfl rfl rfl) ?_;refine RL.asS rfl ?_;refine RL.nil (RC.back ?_);refine RC.d1 4 rfl rfl rfl ?_
  refine ⟨?_, S⟩
  show Value.bool _ = _
  congr 1
  unfold idxOf
  cases h : l.any p with
  | true => exact decide_eq_true (by rw [if_pos rfl]; exact Int.natCast_nonneg _)
  | false => exact decide_eq_false (by rw [if_neg (by decide)]; decide)

theorem any_not {α : Type} (p : α → Bool) (l : List α) : (!l.any fun x => !p x) = l.all p := by
  induction l with
  | nil => rfl
  | cons x l ih => simp [← ih]
theorem c_well (x : Node) (hx : x.ok) (w : World) : FC Tryz.prog 182 [x.val] w (Val (.bool (well x)) w) := by
 refine FC.intro Tryz.func182 rfl Tryz.ntmps182 rfl ?_
 have S := Sub.refl w
 refine RC.seq (RC.region rfl ?_);refine RL.box rfl rfl rfl (fun b_1 w_1 e_1 z_1 hb_1 s_1 => ?_);have S := S.trans s_1;refine RL.asS rfl ?_;refine RL.nil (RC.back (RC.seq (RC.seq (RC.region rfl ?_))));refine RL.eS (.field0 fo140_1 rfl) ?_;refine RL.eS (.load1 sh3 rfl (hb_1.cell rfl)) ?_;refine RL.eS (.bin rfl rfl rfl) ?_;refine RL.mvS rfl ?_;refine RL.split 6 rfl (fun h1 => ?_) (fun h1 => ?_)
 ·
  refine RL.offs 3 rfl ?_;refine RL.eS (.pick_t rfl rfl) ?_;refine RL.mvS rfl ?_;refine RL.offs 3 rfl ?_;refine RL.eS (.pick_t rfl rfl) ?_;refine RL.mvS rfl ?_;refine RL.offs 3 rfl ?_;refine RL.eS (.pick_t rfl rfl) ?_;refine RL.mvS rfl ?_;refine RL.offs 3 rfl ?_;refine RL.eS (.pick_t rfl rfl) ?_;refine RL.mvS rfl ?_;refine RL.offs 3 rfl ?_;refine RL.eS (.pick_t rfl rfl) ?_;refine RL.nil (RC.back ?_);refine RC.cond_t rfl ?_;refine RC.seq (RC.region rfl ?_);refine RL.asS rfl ?_;refine RL.nil (RC.back ?_);refine RC.d1 2 rfl rfl rfl ?_
  refine ⟨?_, S⟩
  show Value.bool _ = _
  congr 1
  symm
  rw [Bool.eq_false_iff]
  intro h
  have := (well_iff x).1 h
  omega
 ·
  refine RL.eS (.field0 fo140_1 rfl) ?_;refine RL.eS (.load1 sh3 rfl (hb_1.cell rfl)) ?_;refine RL.eS (.bin rfl rfl rfl) ?_;refine RL.eS (.pick_f rfl rfl) ?_;refine RL.mvS rfl ?_;refine RL.split 11 rfl (fun h2 => ?_) (fun h2 => ?_)
  ·
   refine RL.offs 3 rfl ?_;refine RL.eS (.pick_t rfl rfl) ?_;refine RL.mvS rfl ?_;refine RL.offs 3 rfl ?_;refine RL.eS (.pick_t rfl rfl) ?_;refine RL.mvS rfl ?_;refine RL.offs 3 rfl ?_;refine RL.eS (.pick_t rfl rfl) ?_;refine RL.mvS rfl ?_;refine RL.offs 3 rfl ?_;refine RL.eS (.pick_t rfl rfl) ?_;refine RL.nil (RC.back ?_);refine RC.cond_t rfl ?_;refine RC.seq (RC.region rfl ?_);refine RL.asS rfl ?_;refine RL.nil (RC.back ?_);refine RC.d1 2 rfl rfl rfl ?_
   refine ⟨?_, S⟩
   show Value.bool _ = _
   congr 1
   symm
   rw [Bool.eq_false_iff]
   intro h
   have := (well_iff x).1 h
   omega
  ·
   refine RL.eS (.field0 fo140_6 rfl) ?_;refine RL.eS (.load1 sh3 rfl (hb_1.cell rfl)) ?_;refine RL.eS (.bin rfl rfl rfl) ?_;refine RL.eS (.pick_f rfl rfl) ?_;refine RL.mvS rfl ?_;refine RL.split 16 rfl (fun h3 => ?_) (fun h3 => ?_)
   ·
    refine RL.offs 3 rfl ?_;refine RL.eS (.pick_t rfl rfl) ?_;refine RL.mvS rfl ?_;refine RL.offs 3 rfl ?_;refine RL.eS (.pick_t rfl rfl) ?_;refine RL.mvS rfl ?_;refine RL.offs 3 rfl ?_;refine RL.eS (.pick_t rfl rfl) ?_;refine RL.nil (RC.back ?_);refine RC.cond_t rfl ?_;refine RC.seq (RC.region rfl ?_);refine RL.asS rfl ?_;refine RL.nil (RC.back ?_);refine RC.d1 2 rfl rfl rfl ?_
    refine ⟨?_, S⟩
    show Value.bool _ = _
    congr 1
    symm
    rw [Bool.eq_false_iff]
    intro h
    have := (well_iff x).1 h
    omega
   ·
    refine RL.eS (.field0 fo140_6 rfl) ?_;refine RL.eS (.load1 sh3 rfl (hb_1.cell rfl)) ?_;refine RL.eS (.bin rfl rfl rfl) ?_;refine RL.eS (.pick_f rfl rfl) ?_;refine RL.mvS rfl ?_;refine RL.split 21 rfl (fun h4 => ?_) (fun h4 => ?_)
    ·
     refine RL.offs 3 rfl ?_;refine RL.eS (.pick_t rfl rfl) ?_;refine RL.mvS rfl ?_;refine RL.offs 3 rfl ?_;refine RL.eS (.pick_t rfl rfl) ?_;refine RL.nil (RC.back ?_);refine RC.cond_t rfl ?_;refine RC.seq (RC.region rfl ?_);refine RL.asS rfl ?_;refine RL.nil (RC.back ?_);refine RC.d1 2 rfl rfl rfl ?_
     refine ⟨?_, S⟩
     show Value.bool _ = _
     congr 1
     symm
     rw [Bool.eq_false_iff]
     intro h
     have := (well_iff x).1 h
     omega
    ·
     refine RL.eS (.field0 fo140_7 rfl) ?_;refine RL.eS (.load1 sh3 rfl (hb_1.cell rfl)) ?_;refine RL.eS (.bin rfl rfl rfl) ?_;refine RL.eS (.pick_f rfl rfl) ?_;refine RL.mvS rfl ?_;refine RL.split 26 rfl (fun h5 => ?_) (fun h5 => ?_)
     ·
      refine RL.offs 3 rfl ?_;refine RL.eS (.pick_t rfl rfl) ?_;refine RL.nil (RC.back ?_);refine RC.cond_t rfl ?_;refine RC.seq (RC.region rfl ?_);refine RL.asS rfl ?_;refine RL.nil (RC.back ?_);refine RC.d1 2 rfl rfl rfl ?_
      refine ⟨?_, S⟩
      show Value.bool _ = _
      congr 1
      symm
      rw [Bool.eq_false_iff]
      intro h
      have := (well_iff x).1 h
      omega
     ·
      refine RL.eS (.field0 fo140_7 rfl) ?_;refine RL.eS (.load1 sh3 rfl (hb_1.cell rfl)) ?_;refine RL.eS (.bin rfl rfl rfl) ?_;refine RL.eS (.pick_f rfl rfl) ?_;refine RL.nil (RC.back ?_);refine RC.cond_dec rfl (fun h6 => ?_) (fun h6 => ?_)
      ·
       refine RC.seq (RC.region rfl ?_);refine RL.asS rfl ?_;refine RL.nil (RC.back ?_);refine RC.d1 2 rfl rfl rfl ?_
       refine ⟨?_, S⟩
       show Value.bool _ = _
       congr 1
       symm
       rw [Bool.eq_false_iff]
       intro h
       have := (well_iff x).1 h
       omega
      ·
       refine RC.skip (RC.back (RC.seq (RC.region rfl ?_)));refine RL.eS (.field0 fo140_5 rfl) ?_;refine RL.eS (.sliceArr ar138 rfl) ?_;refine RL.call rfl ok186 (c_containsRef (fun r => !rightR r) x.kids _ 9 238 ok238 [] [] w_1 (Has.slPart (pre := [i6 x.kind, i6 x.gen, i6 x.n, i6 x.v, i6 x.s]) (post := [i6 x.pre, i6 x.suf]) hb_1 rfl) (Nat.le_of_ble_eq_true rfl) (fun r hr w' _ => c_well1 r (hx.kids r hr) w')) rfl rfl ?_;rintro _ w7 ⟨rfl, s8⟩;have S := S.trans s8;refine RL.eS (.not rfl) ?_;refine RL.asS rfl ?_;refine RL.nil (RC.back ?_);refine RC.d1 2 rfl rfl rfl ?_
       refine ⟨?_, S⟩
       show Value.bool _ = _
       congr 1
       rw [any_not]
       unfold well
       rw [decide_eq_true (by omega)]
       rfl

noncomputable def aokB (A : Ar) : Bool := @decide (AOk A) (Classical.propDecidable _)
theorem aokB_iff (A : Ar) : aokB A = true ↔ AOk A := by unfold aokB; exact @decide_eq_true_iff _ (Classical.propDecidable _)

def flags (A : Ar) (i : Nat) : List Bool := (List.range A.nodes.length).map fun (p : Nat) => decide ((p : Int) ∈ A.free.take i)
theorem flags_len (A : Ar) (i : Nat) : (flags A i).length = A.nodes.length := by simp [flags]
theorem flags_get (A : Ar) (i : Nat) (x : Int) (h : 0 ≤ x ∧ x < A.nodes.length) : (flags A i)[x.toNat]? = some (decide (x ∈ A.free.take i)) := by
  have h1 : x.toNat < A.nodes.length := by omega
  simp only [flags, List.getElem?_map, List.getElem?_range h1, Option.map_some]
  rw [Int.toNat_of_nonneg h.1]
theorem mem_take_succ {l : List Int} {i : Nat} {x y : Int} (hy : l[i]? = some y) : x ∈ l.take (i + 1) ↔ x ∈ l.take i ∨ x = y := by
  rw [List.take_add_one, hy]; simp
theorem flags_set (A : Ar) (i : Nat) (x : Int) (hx : A.free[i]? = some x) (h : 0 ≤ x ∧ x < A.nodes.length) : (flags A i).set x.toNat true = flags A (i + 1) := by
  apply List.ext_getElem?
  intro k
  rw [List.getElem?_set, flags_len]
  by_cases hk : k < A.nodes.length
  · have h2 := flags_get A (i + 1) k (by omega)
    have h3 := flags_get A i k (by omega)
    rw [Int.toNat_natCast] at h2 h3
    rw [h2, h3]
    by_cases e : x.toNat = k
    · rw [if_pos e, if_pos (by omega)]
      congr 1; symm
      rw [decide_eq_true_iff, mem_take_succ hx]
      exact .inr (by omega)
    · rw [if_neg e]
      congr 1
      rw [decide_eq_decide, mem_take_succ hx]
      exact ⟨.inl, fun h => h.resolve_right (by omega)⟩
  · rw [List.getElem?_eq_none (l := flags A (i + 1)) (by rw [flags_len]; omega), List.getElem?_eq_none (l := flags A i) (by rw [flags_len]; omega)]
    by_cases e : x.toNat = k
    · rw [if_pos e, if_neg (by omega)]
    · rw [if_neg e]
theorem flags_0 (A : Ar) : flags A 0 = List.replicate A.nodes.length false := by
  apply List.ext_getElem?
  intro k
  simp [flags, List.getElem?_replicate, List.getElem?_range]
  by_cases h : k < A.nodes.length
  · simp [h]
  · simp [h]
theorem flags_all (A : Ar) (i : Nat) (h : i = A.free.length) (k : Nat) (hk : k < A.nodes.length) : (flags A i)[k]? = some (decide ((k : Int) ∈ A.free)) := by
  have := flags_get A i k (by omega)
  rw [Int.toNat_natCast, h, List.take_length] at this
  rw [h]; exact this
theorem nodup_take_succ {l : List Int} {i : Nat} {y : Int} (hy : l[i]? = some y) : (l.take (i + 1)).Nodup ↔ (l.take i).Nodup ∧ y ∉ l.take i := by
  rw [List.take_add_one, hy, Option.toList_some, List.nodup_append]
  constructor
  · rintro ⟨h1, _, h3⟩; exact ⟨h1, fun h => h3 _ h _ (List.mem_singleton.2 rfl) rfl⟩
  · rintro ⟨h1, h2⟩
    exact ⟨h1, by simp, fun a ha b hb e => by rw [List.mem_singleton] at hb; subst hb; subst e; exact h2 ha⟩
structure Pre1 (A : Ar) (i : Nat) : Prop where
  rng : ∀ x ∈ A.free.take i, 0 ≤ x ∧ x < A.nodes.length
  nd : (A.free.take i).Nodup
theorem Pre1.succ {A : Ar} {i : Nat} {x : Int} (h : Pre1 A i) (hx : A.free[i]? = some x) (hr : 0 ≤ x ∧ x < A.nodes.length) (hn : x ∉ A.free.take i) : Pre1 A (i + 1) :=
  ⟨fun y hy => ((mem_take_succ hx).1 hy).elim (h.rng y) (fun e => e ▸ hr), (nodup_take_succ hx).2 ⟨h.nd, hn⟩⟩
def Pre2 (A : Ar) (i : Nat) : Prop := ∀ (j : Nat) x, A.nodes[j]? = some x → j < i → well x = true ∧ (x.kind = 0 ↔ (j : Int) ∈ A.free) ∧ ((j : Int) ∈ A.free → x = bareN x.gen)
theorem Pre2.succ {A : Ar} {i : Nat} {x : Node} (h : Pre2 A i) (hx : A.nodes[i]? = some x) (hr : well x = true ∧ (x.kind = 0 ↔ (i : Int) ∈ A.free) ∧ ((i : Int) ∈ A.free → x = bareN x.gen)) : Pre2 A (i + 1) :=
  fun j y hy hj => (Nat.lt_succ_iff_lt_or_eq.1 hj).elim (h j y hy) (fun e => by subst e; rw [hx] at hy; cases hy; exact hr)
theorem aok_mk {A : Ar} (h1 : 1 ≤ A.nodes.length ∧ A.nodes.length ≤ 512 ∧ A.free.length ≤ A.nodes.length) (p1 : Pre1 A A.free.length) (p2 : Pre2 A A.nodes.length) : AOk A :=
  ⟨h1.1, h1.2.1, h1.2.2, by have := p1.rng; rwa [List.take_length] at this, by have := p1.nd; rwa [List.take_length] at this,
   fun x hx => by obtain ⟨j, hj⟩ := List.getElem?_of_mem hx; exact (p2 j x hj (lt_of_get hj)).1,
   fun i x hx => (p2 i x hx (lt_of_get hx)).2.1, fun i x hx => (p2 i x hx (lt_of_get hx)).2.2⟩
theorem aok_at {A : Ar} (h : AOk A) {i : Nat} {x : Node} (hx : A.nodes[i]? = some x) : well x = true ∧ (x.kind = 0 ↔ (i : Int) ∈ A.free) ∧ ((i : Int) ∈ A.free → x = bareN x.gen) :=
  ⟨h.well x (List.mem_of_getElem? hx), h.kind i x hx, h.bare i x hx⟩
theorem aok_no_dup {A : Ar} (h : AOk A) {i : Nat} {x : Int} (hx : A.free[i]? = some x) : x ∉ A.free.take i := by
  have : (A.free.take (i + 1)).Nodup := h.nodup.sublist (List.take_sublist _ _)
  exact ((nodup_take_succ hx).1 this).2
theorem aokB_no {A : Ar} (h : ¬ AOk A) : aokB A = false := by rw [Bool.eq_false_iff]; exact fun e => h ((aokB_iff A).1 e)
theorem aokB_yes {A : Ar} (h : AOk A) : aokB A = true := (aokB_iff A).2 h
theorem eqL_cells (x y : Node) : eqL x.cells y.cells = decide (x = y) := by
  cases x; cases y
  simp only [Node.cells, eqL, eq1, Node.mk.injEq, Bool.decide_and, Bool.and_true]
  rfl
theorem c_aRight (A : Ar) (na fa : Option Addr) (nc fc : Nat) (w : World) (hA : ArR w na fa A) :
  FC Tryz.prog 109 [arV na fa nc fc A] w (Val (.bool (aokB A)) w) := by
 have hN := hA.nodes
 have hFr := hA.free
 refine FC.intro Tryz.func109 rfl Tryz.ntmps109 rfl ?_
 have S := Sub.refl w
 refine RC.seq (RC.region rfl ?_);refine RL.box rfl rfl rfl (fun b_1 w_1 e_1 z_1 hb_1 s_1 => ?_);have S := S.trans s_1
 have hb_1 : Has w_1 b_1 ([.slice na A.nodes.length nc, .slice fa A.free.length fc]) _ := hb_1
 refine RL.asS rfl ?_;refine RL.nil (RC.back (RC.seq (RC.seq (RC.region rfl ?_))));refine RL.eS (.field0 fo26_0 rfl) ?_;refine RL.eS (.load1 sh23 rfl (hb_1.cell rfl)) ?_;refine RL.eS (.len sl23 rfl) ?_;refine RL.eS (.bin rfl rfl rfl) ?_;refine RL.mvS rfl ?_;refine RL.split 12 rfl (fun h1 => ?_) (fun h1 => ?_)
 ·
  refine RL.offs 4 rfl ?_;refine RL.eS (.pick_t rfl rfl) ?_;refine RL.mvS rfl ?_;refine RL.offs 7 rfl ?_;refine RL.eS (.pick_t rfl rfl) ?_;refine RL.nil (RC.back ?_);refine RC.cond_t rfl ?_;refine RC.seq (RC.region rfl ?_);refine RL.asS rfl ?_;refine RL.nil (RC.back ?_);refine RC.d1 2 rfl rfl rfl ?_
  exact ⟨congrArg Value.bool (aokB_no (fun h => by have := h.one; have := h.most; have := h.fit; omega)).symm, S⟩
 ·
  refine RL.eS (.field0 fo26_0 rfl) ?_;refine RL.eS (.load1 sh23 rfl (hb_1.cell rfl)) ?_;refine RL.eS (.len sl23 rfl) ?_;refine RL.eS (.bin rfl rfl rfl) ?_;refine RL.eS (.pick_f rfl rfl) ?_;refine RL.mvS rfl ?_;refine RL.split 18 rfl (fun h2 => ?_) (fun h2 => ?_)
  ·
   refine RL.offs 7 rfl ?_;refine RL.eS (.pick_t rfl rfl) ?_;refine RL.nil (RC.back ?_);refine RC.cond_t rfl ?_;refine RC.seq (RC.region rfl ?_);refine RL.asS rfl ?_;refine RL.nil (RC.back ?_);refine RC.d1 2 rfl rfl rfl ?_
   exact ⟨congrArg Value.bool (aokB_no (fun h => by have := h.one; have := h.most; have := h.fit; omega)).symm, S⟩
  ·
   refine RL.eS (.field0 fo26_1 rfl) ?_;refine RL.eS (.load1 sh24 rfl (hb_1.cell rfl)) ?_;refine RL.eS (.len sl24 rfl) ?_;refine RL.eS (.field0 fo26_0 rfl) ?_;refine RL.eS (.load1 sh23 rfl (hb_1.cell rfl)) ?_;refine RL.eS (.len sl23 rfl) ?_;refine RL.eS (.bin rfl rfl rfl) ?_;refine RL.eS (.pick_f rfl rfl) ?_;refine RL.nil (RC.back ?_);refine RC.cond_dec rfl (fun h3 => ?_) (fun h3 => ?_)
   ·
    refine RC.seq (RC.region rfl ?_);refine RL.asS rfl ?_;refine RL.nil (RC.back ?_);refine RC.d1 2 rfl rfl rfl ?_
    exact ⟨congrArg Value.bool (aokB_no (fun h => by have := h.one; have := h.most; have := h.fit; omega)).symm, S⟩
   ·
    refine RC.skip (RC.back (RC.seq (RC.region rfl ?_)));refine RL.eS (.field0 fo26_0 rfl) ?_;refine RL.eS (.load1 sh23 rfl (hb_1.cell rfl)) ?_;refine RL.eS (.len sl23 rfl) ?_;refine RL.makeSlice sl253 ze4 rfl rfl rfl rfl (by omega) rfl rfl (fun b_30 w_30 e_30 z_30 hb_30 s_30 => ?_);have ge_30 := S.le e_30;have n_1__30 := hb_1.ne e_30;have S := S.trans s_30;have hb_1 := hb_1.sub s_30
    have hF : Has w_30 b_30 ((flags A 0).map Value.bool) 4 := by have := hb_30; rw [flags_0, List.map_replicate]; rw [Int.toNat_natCast] at this; rw [← rep1]; exact this
    refine RL.asS rfl ?_;refine RL.nil (RC.back (RC.seq (RC.seq (RC.region rfl ?_))));refine RL.eS (.field0 fo26_1 rfl) ?_;refine RL.eS (.load1 sh24 rfl (hb_1.cell rfl)) ?_;refine RL.eS (.len sl24 rfl) ?_;refine RL.mvS rfl ?_;refine RL.nil (RC.back (RC.block ?_));refine RC.loop (α := Nat) (fun i => [(1, .pointer (some ⟨b_1, 0, none⟩)), (3, .slice (some ⟨b_30, 0, none⟩) A.nodes.length A.nodes.length), (32, .slice fa A.free.length fc), (33, .int .i64 (A.free.length : Int)), (34, .int .i64 (i : Int))]) (fun i w4 => i ≤ A.free.length ∧ Pre1 A i ∧ Has w4 b_1 [.slice na A.nodes.length nc, .slice fa A.free.length fc] 26 ∧ Has w4 b_30 ((flags A i).map Value.bool) 4 ∧ Sub w w4) (fun i => A.free.length - i) 0 (keep_of (by repeat (first | exact trivial | refine And.intro rfl ?_))) (⟨Nat.zero_le _, ⟨fun x hx => by simp at hx, by simp⟩, hb_1, hF, S⟩) (fun i w4 hJ => ?_)
    obtain ⟨hi, hp, hb_1, hF, S⟩ := hJ
    refine RC.seq (RC.region rfl ?_);refine RL.eS (.bin rfl rfl rfl) ?_;refine RL.nil (RC.back (RC.seq ?_));refine RC.cond_dec rfl (fun h5 => ?_) (fun h5 => ?_)
    ·
     obtain ⟨y, hy⟩ := getSome (l := A.free) (i := i) (by omega)
     refine RC.skip (RC.back (RC.seq (RC.block (RC.seq (RC.region rfl ?_)))));refine RL.eS (.indexS sl24 rfl rfl (by omega) (hFr.is (i := 0) (by simp only [List.length_map, List.length_cons, List.length_nil]; omega))) ?_;refine RL.eS (.load1 sh3 rfl ((hFr.sub S).one (enc := i6) (i := i) hy)) ?_;refine RL.asS rfl ?_;refine RL.nil (RC.back (RC.seq (RC.seq (RC.region rfl ?_))));refine RL.mvS rfl ?_;refine RL.eS (.bin rfl rfl rfl) ?_;refine RL.mvS rfl ?_;refine RL.split 40 rfl (fun h6 => ?_) (fun h6 => ?_)
     ·
      refine RL.offs 4 rfl ?_;refine RL.eS (.pick_t rfl rfl) ?_;refine RL.mvS rfl ?_;refine RL.offs 4 rfl ?_;refine RL.eS (.pick_t rfl rfl) ?_;refine RL.nil (RC.back ?_);refine RC.cond_t rfl ?_;refine RC.seq (RC.region rfl ?_);refine RL.asS rfl ?_;refine RL.nil (RC.back ?_);refine RC.d1 2 rfl rfl rfl ?_
      exact ⟨congrArg Value.bool (aokB_no (fun h => by have := h.free y (List.mem_of_getElem? hy); omega)).symm, S⟩
     ·
      refine RL.mvS rfl ?_;refine RL.mvS rfl ?_;refine RL.eS (.len sl253 rfl) ?_;refine RL.eS (.bin rfl rfl rfl) ?_;refine RL.eS (.pick_f rfl rfl) ?_;refine RL.mvS rfl ?_;refine RL.split 46 rfl (fun h7 => ?_) (fun h7 => ?_)
      ·
       refine RL.offs 4 rfl ?_;refine RL.eS (.pick_t rfl rfl) ?_;refine RL.nil (RC.back ?_);refine RC.cond_t rfl ?_;refine RC.seq (RC.region rfl ?_);refine RL.asS rfl ?_;refine RL.nil (RC.back ?_);refine RC.d1 2 rfl rfl rfl ?_
       exact ⟨congrArg Value.bool (aokB_no (fun h => by have := h.free y (List.mem_of_getElem? hy); omega)).symm, S⟩
      ·
       refine RL.mvS rfl ?_;refine RL.mvS rfl ?_;refine RL.eS (.indexO sl253 rfl rfl (by omega)) ?_;refine RL.eS (.load1 sh4 rfl (hF.cell (v := .bool (decide (y ∈ A.free.take i))) (by rw [Nat.mul_one, Nat.zero_add, List.getElem?_map, flags_get A i y (by omega)]; rfl))) ?_;refine RL.eS (.pick_f rfl rfl) ?_;refine RL.nil (RC.back ?_);refine RC.cond_dec rfl (fun h8 => ?_) (fun h8 => ?_)
       ·
        have hbad := h8
        refine RC.seq (RC.region rfl ?_);refine RL.asS rfl ?_;refine RL.nil (RC.back ?_);refine RC.d1 2 rfl rfl rfl ?_
        exact ⟨congrArg Value.bool (aokB_no (fun h => aok_no_dup h hy hbad)).symm, S⟩
       ·
        have hno := h8
        refine RC.skip (RC.back (RC.region rfl ?_));refine RL.mvS rfl ?_;refine RL.mvS rfl ?_;refine RL.eS (.indexO sl253 rfl rfl (by omega)) ?_;refine RL.store sh4 rfl rfl rfl hF (by show 0 + y.toNat * 1 + 1 ≤ _; rw [List.length_map, flags_len]; omega) (by rfl) rfl (fun w9 z9 hF a9 => ?_);have S := S.upd a9 ge_30;have hb_1 := hb_1.upd a9 n_1__30
        have hF := (Has.set1 (enc := Value.bool) (i := y.toNat) (x := true) (by rw [Nat.zero_add, Nat.mul_one] at hF; exact hF))
        rw [flags_set A i y hy (by omega)] at hF
        refine RL.nil (RC.back (RC.region rfl ?_));refine RL.eS (.as (.bin rfl rfl rfl) (wi64 (y := ((i + 1 : Nat) : Int)) (by omega) (by omega))) ?_;refine RL.mvS rfl ?_
        exact RL.nil (fun a ka => ⟨i + 1, ⟨by omega, hp.succ hy (by omega) hno, hb_1, hF, S⟩, by omega, ka.keep (keep_of (by repeat (first | exact trivial | refine And.intro rfl ?_)))⟩)
    ·
     obtain rfl : i = A.free.length := by omega
     refine RC.exit rfl (RC.back (RC.seq (RC.seq (RC.region rfl ?_))));refine RL.eS (.field0 fo26_0 rfl) ?_;refine RL.eS (.load1 sh23 rfl (hb_1.cell rfl)) ?_;refine RL.eS (.len sl23 rfl) ?_;refine RL.mvS rfl ?_;refine RL.nil (RC.back (RC.block ?_));refine RC.loop (α := Nat) (fun i => [(3, .slice (some ⟨b_30, 0, none⟩) A.nodes.length A.nodes.length), (57, .slice na A.nodes.length nc), (58, .int .i64 (A.nodes.length : Int)), (59, .int .i64 (i : Int))]) (fun i w10 => i ≤ A.nodes.length ∧ Pre2 A i ∧ Has w10 b_30 ((flags A A.free.length).map Value.bool) 4 ∧ Sub w w10) (fun i => A.nodes.length - i) 0 (keep_of (by repeat (first | exact trivial | refine And.intro rfl ?_))) (⟨Nat.zero_le _, fun j x _ h => absurd h (by omega), hF, S⟩) (fun i w10 hJ => ?_)
     obtain ⟨hi, hq, hF, S⟩ := hJ
     refine RC.seq (RC.region rfl ?_);refine RL.eS (.bin rfl rfl rfl) ?_;refine RL.nil (RC.back (RC.seq ?_));refine RC.cond_dec rfl (fun h11 => ?_) (fun h11 => ?_)
     ·
      obtain ⟨x, hx⟩ := getSome (l := A.nodes) (i := i) (by omega)
      have hfl := flags_all A _ rfl i (by omega)
      refine RC.skip (RC.back (RC.seq (RC.block (RC.seq (RC.region rfl ?_)))));refine RL.mvS rfl ?_;refine RL.eS (.indexS sl23 rfl rfl (by omega) (hN.is (i := 0) (by simp only [List.length_map, List.length_cons, List.length_nil]; omega))) ?_;refine RL.eS (.loadR (x.cells) sh140 rfl ((hN.sub S).rowAt (enc := Node.cells) (i := i) hx) rfl) ?_;refine RL.alloc ze140 rfl rfl (fun b_7 w_7 e_7 z_7 hb_7 s_7 => ?_);have ge_7 := S.le e_7;have n_30__7 := hF.ne e_7;have S := S.trans s_7;have hF := hF.sub s_7;refine RL.asS rfl ?_;refine RL.stS sh140 rfl rfl rfl hb_7 (fun w12 z12 hb_7 a12 => ?_);have S := S.upd a12 ge_7;have hF := hF.upd a12 n_30__7
      have hb_7 : Has w12 b_7 (x.cells) _ := hb_7.now (by kernel_rfl)
      refine RL.nil (RC.back (RC.seq ?_));refine RC.draw rfl mxo (by kernel_rfl) ?_;refine RQ.ev (.loadR (x.cells) sh140 rfl hb_7.row rfl) rfl rfl ?_;refine RQ.call rfl ok182 (fun w' s' => c_well x (hA.nok x (List.mem_of_getElem? hx)) w') rfl rfl ?_;refine RQ.ev (.not rfl) rfl rfl ?_;refine RQ.ev (.move rfl) rfl rfl ?_;refine RQ.splitB 67 rfl (fun h13 => ?_) (fun h13 => ?_)
      ·
       have hbad1 : ¬ well x = true := (by simpa using h13)
       refine RQ.oS ?_;refine RQ.oS ?_;refine RQ.oS ?_;refine RQ.oS ?_;refine RQ.oS ?_;refine RQ.oS ?_;refine RQ.oS ?_;refine RQ.oS ?_;refine RQ.ev (.pick_t rfl rfl) rfl rfl ?_;refine RQ.ev (.move rfl) rfl rfl ?_;refine RQ.oS ?_;refine RQ.oS ?_;refine RQ.oS ?_;refine RQ.oS ?_;refine RQ.oS ?_;refine RQ.oS ?_;refine RQ.oS ?_;refine RQ.oS ?_;refine RQ.oS ?_;refine RQ.oS ?_;refine RQ.oS ?_;refine RQ.ev (.pick_t rfl rfl) rfl rfl ?_;refine RQ.nil (fun w14 s15 => RC.back ?_);have S := S.trans s15;have hF := hF.sub s15;have hb_7 := hb_7.sub s15;refine RC.cond_t rfl ?_;refine RC.seq (RC.region rfl ?_);refine RL.asS rfl ?_;refine RL.nil (RC.back ?_);refine RC.d1 2 rfl rfl rfl ?_
       exact ⟨congrArg Value.bool (aokB_no (fun h => hbad1 (aok_at h hx).1)).symm, S⟩
      ·
       have hw : well x = true := (by simpa using h13)
       refine RQ.ev (.field0 fo140_0 rfl) rfl rfl ?_;refine RQ.ev (.load1 sh3 rfl (hb_7.cell rfl)) rfl rfl ?_;refine RQ.ev (.bin rfl rfl rfl) rfl rfl ?_;refine RQ.ev (.move rfl) rfl rfl ?_;refine RQ.ev (.move rfl) rfl rfl ?_;refine RQ.ev (.indexO sl253 rfl rfl (by omega)) rfl rfl ?_;refine RQ.ev (.load1 sh4 rfl (hF.cell (v := .bool (decide ((i : Int) ∈ A.free))) (by rw [Nat.mul_one, Nat.zero_add, List.getElem?_map, Int.toNat_natCast, hfl]; rfl))) rfl rfl ?_;refine RQ.ev (.neB bo4 rfl rfl) rfl rfl ?_;refine RQ.ev (.pick_f rfl rfl) rfl rfl ?_;refine RQ.ev (.move rfl) rfl rfl ?_;refine RQ.splitB 77 rfl (fun h16 => ?_) (fun h16 => ?_)
       ·
        have hbad2 : ¬ (x.kind = 0 ↔ (i : Int) ∈ A.free) := (by simpa using h16)
        refine RQ.oS ?_;refine RQ.oS ?_;refine RQ.oS ?_;refine RQ.oS ?_;refine RQ.oS ?_;refine RQ.oS ?_;refine RQ.oS ?_;refine RQ.oS ?_;refine RQ.oS ?_;refine RQ.oS ?_;refine RQ.oS ?_;refine RQ.ev (.pick_t rfl rfl) rfl rfl ?_;refine RQ.nil (fun w17 s18 => RC.back ?_);have S := S.trans s18;have hF := hF.sub s18;have hb_7 := hb_7.sub s18;refine RC.cond_t rfl ?_;refine RC.seq (RC.region rfl ?_);refine RL.asS rfl ?_;refine RL.nil (RC.back ?_);refine RC.d1 2 rfl rfl rfl ?_
        exact ⟨congrArg Value.bool (aokB_no (fun h => hbad2 (aok_at h hx).2.1)).symm, S⟩
       ·
        have hk : (x.kind = 0 ↔ (i : Int) ∈ A.free) := (by simpa using h16)
        refine RQ.ev (.move rfl) rfl rfl ?_;refine RQ.ev (.move rfl) rfl rfl ?_;refine RQ.ev (.indexO sl253 rfl rfl (by omega)) rfl rfl ?_;refine RQ.ev (.load1 sh4 rfl (hF.cell (v := .bool (decide ((i : Int) ∈ A.free))) (by rw [Nat.mul_one, Nat.zero_add, List.getElem?_map, Int.toNat_natCast, hfl]; rfl))) rfl rfl ?_;refine RQ.ev (.move rfl) rfl rfl ?_;refine RQ.split 82 rfl (fun h19 => ?_) (fun h19 => ?_)
        ·
         have hmem := h19
         refine RQ.ev (.loadR (x.cells) sh140 rfl hb_7.row rfl) rfl rfl ?_;refine RQ.ev (.field0 fo140_1 rfl) rfl rfl ?_;refine RQ.ev (.load1 sh3 rfl (hb_7.cell rfl)) rfl rfl ?_;refine RQ.ev (.buildS ze140 pl140 rfl rfl) rfl rfl ?_;refine RQ.ev (.neS (xs := x.cells) (ys := (bareN x.gen).cells) fk140 eg140 sh140 rfl rfl rfl rfl rfl) rfl rfl ?_;refine RQ.ev (.pick_t rfl rfl) rfl rfl ?_;refine RQ.ev (.pick_f rfl rfl) rfl rfl ?_;refine RQ.nil (fun w20 s21 => RC.back ?_);have S := S.trans s21;have hF := hF.sub s21;refine RC.cond rfl (fun h22 => ?_) (fun h22 => ?_)
         ·
          have hbad3 : ¬ x = bareN x.gen := (by have := h22; rw [eqL_cells] at this; simpa using this)
          refine RC.seq (RC.region rfl ?_);refine RL.asS rfl ?_;refine RL.nil (RC.back ?_);refine RC.d1 2 rfl rfl rfl ?_
          exact ⟨congrArg Value.bool (aokB_no (fun h => hbad3 ((aok_at h hx).2.2 hmem))).symm, S⟩
         ·
          have hgood : well x = true ∧ (x.kind = 0 ↔ (i : Int) ∈ A.free) ∧ ((i : Int) ∈ A.free → x = bareN x.gen) := ⟨hw, hk, fun _ => by have := h22; rw [eqL_cells] at this; simpa using this⟩
          refine RC.skip (RC.back (RC.region rfl ?_));refine RL.eS (.as (.bin rfl rfl rfl) (wi64 (y := ((i + 1 : Nat) : Int)) (by omega) (by omega))) ?_;refine RL.mvS rfl ?_
          exact RL.nil (fun a ka => ⟨i + 1, ⟨by omega, hq.succ hx hgood, hF, S⟩, by omega, ka.keep (keep_of (by repeat (first | exact trivial | refine And.intro rfl ?_)))⟩)
        ·
         have hgood : well x = true ∧ (x.kind = 0 ↔ (i : Int) ∈ A.free) ∧ ((i : Int) ∈ A.free → x = bareN x.gen) := ⟨hw, hk, fun h => absurd h h19⟩
         refine RQ.oS ?_;refine RQ.oS ?_;refine RQ.oS ?_;refine RQ.oS ?_;refine RQ.oS ?_;refine RQ.ev (.pick_f rfl rfl) rfl rfl ?_;refine RQ.ev (.pick_f rfl rfl) rfl rfl ?_;refine RQ.nil (fun w23 s24 => RC.back ?_);have S := S.trans s24;have hF := hF.sub s24;refine RC.cond_f rfl ?_;refine RC.skip (RC.back (RC.region rfl ?_));refine RL.eS (.as (.bin rfl rfl rfl) (wi64 (y := ((i + 1 : Nat) : Int)) (by omega) (by omega))) ?_;refine RL.mvS rfl ?_
         exact RL.nil (fun a ka => ⟨i + 1, ⟨by omega, hq.succ hx hgood, hF, S⟩, by omega, ka.keep (keep_of (by repeat (first | exact trivial | refine And.intro rfl ?_)))⟩)
     ·
      obtain rfl : i = A.nodes.length := by omega
      refine RC.exit rfl (RC.back (RC.seq (RC.region rfl ?_)));refine RL.asS rfl ?_;refine RL.nil (RC.back ?_);refine RC.d1 2 rfl rfl rfl ?_
      exact ⟨congrArg Value.bool (aokB_yes (aok_mk (by omega) hp hq)).symm, S⟩
def getA (A : Ar) (r : Int) : Option Node :=
  if placeR r < 0 then none else
  match A.nodes[(placeR r).toNat]? with
  | none => none
  | some x => if x.kind = 0 ∨ ¬ x.gen = genR r then none else some x
def getV (A : Ar) (r : Int) : Value := match getA A r with
  | some x => .tuple #[x.val, .int .i64 0]
  | none => .tuple #[(bareN 0).val, .int .i64 4]
theorem getA_neg {A : Ar} {r : Int} (h : placeR r < 0 ∨ A.nodes.length ≤ placeR r) : getA A r = none := by
  unfold getA
  split
  · rfl
  · rw [List.getElem?_eq_none (by omega)]
theorem getA_at {A : Ar} {r : Int} {x : Node} (h : 0 ≤ placeR r) (hx : A.nodes[(placeR r).toNat]? = some x) : getA A r = if x.kind = 0 ∨ ¬ x.gen = genR r then none else some x := by
  unfold getA
  rw [if_neg (by omega), hx]
theorem getV_no {A : Ar} {r : Int} (h : getA A r = none) : getV A r = .tuple #[(bareN 0).val, .int .i64 4] := by rw [getV, h]
theorem getV_yes {A : Ar} {r : Int} {x : Node} (h : getA A r = some x) : getV A r = .tuple #[x.val, .int .i64 0] := by rw [getV, h]

theorem c_aGet (A : Ar) (na fa : Option Addr) (nc fc : Nat) (r : Int) (hr : U64 r) (w : World) (hA : ArR w na fa A) :
  FC Tryz.prog 125 [arV na fa nc fc A, .int .u64 r] w (Val (getV A r) w) := by
 have hN := hA.nodes
 have hFr := hA.free
 refine FC.intro Tryz.func125 rfl Tryz.ntmps125 rfl ?_
 have S := Sub.refl w
 refine RC.seq (RC.region rfl ?_);refine RL.box rfl rfl rfl (fun b_2 w_2 e_2 z_2 hb_2 s_2 => ?_);have S := S.trans s_2
 have hb_2 : Has w_2 b_2 ([.slice na A.nodes.length nc, .slice fa A.free.length fc]) _ := hb_2
 refine RL.alloc ze140 rfl rfl (fun b_4 w_4 e_4 z_4 hb_4 s_4 => ?_);have ge_4 := S.le e_4;have n_2__4 := hb_2.ne e_4;have S := S.trans s_4;have hb_2 := hb_2.sub s_4;refine RL.asS rfl ?_;refine RL.nil (RC.back (RC.seq (RC.region rfl ?_)));refine RL.mvS rfl ?_;refine RL.call rfl ok169 (c_refPlace r hr w_4) rfl rfl ?_;rintro _ w1 ⟨rfl, s2⟩;have S := S.trans s2;have hb_2 := hb_2.sub s2;have hb_4 := hb_4.sub s2;refine RL.asS rfl ?_;refine RL.nil (RC.back (RC.seq (RC.seq ?_)));refine RC.draw rfl mxo (by kernel_rfl) ?_;refine RQ.ev (.move rfl) rfl rfl ?_;refine RQ.ev (.bin rfl rfl rfl) rfl rfl ?_;refine RQ.ev (.move rfl) rfl rfl ?_;refine RQ.split 11 rfl (fun h3 => ?_) (fun h3 => ?_)
 ·
  refine RQ.oS ?_;refine RQ.oS ?_;refine RQ.oS ?_;refine RQ.oS ?_;refine RQ.oS ?_;refine RQ.ev (.pick_t rfl rfl) rfl rfl ?_;refine RQ.ev (.move rfl) rfl rfl ?_;refine RQ.oS ?_;refine RQ.oS ?_;refine RQ.oS ?_;refine RQ.oS ?_;refine RQ.oS ?_;refine RQ.oS ?_;refine RQ.oS ?_;refine RQ.ev (.pick_t rfl rfl) rfl rfl ?_;refine RQ.ev (.move rfl) rfl rfl ?_;refine RQ.oS ?_;refine RQ.oS ?_;refine RQ.oS ?_;refine RQ.oS ?_;refine RQ.oS ?_;refine RQ.oS ?_;refine RQ.oS ?_;refine RQ.oS ?_;refine RQ.oS ?_;refine RQ.ev (.pick_t rfl rfl) rfl rfl ?_;refine RQ.nil (fun w4 s5 => RC.back ?_);have S := S.trans s5;have hb_2 := hb_2.sub s5;have hb_4 := hb_4.sub s5;refine RC.cond_t rfl ?_;refine RC.seq (RC.region rfl ?_);refine RL.eS (.buildS ze140 pl140 rfl rfl) ?_;refine RL.stS sh140 rfl rfl rfl hb_4 (fun w6 z6 hb_4 a6 => ?_);have S := S.upd a6 ge_4;have hb_2 := hb_2.upd a6 n_2__4
  have hb_4 : Has w6 b_4 ((bareN 0).cells) _ := hb_4.now (by kernel_rfl)
  refine RL.asS rfl ?_;refine RL.nil (RC.back ?_);refine RC.done (rs := [.cell 4 140, .tmp 5]) (vs := [_, _]) rfl rfl ⟨⟨_, rfl, .inr ⟨(bareN 0).cells, sh140, hb_4.row, rfl⟩⟩, rfl, trivial⟩ ?_
  rw [getV_no (getA_neg (by omega))]
  exact ⟨rfl, S⟩
 ·
  refine RQ.ev (.move rfl) rfl rfl ?_;refine RQ.ev (.field0 fo26_0 rfl) rfl rfl ?_;refine RQ.ev (.load1 sh23 rfl (hb_2.cell rfl)) rfl rfl ?_;refine RQ.ev (.len sl23 rfl) rfl rfl ?_;refine RQ.ev (.bin rfl rfl rfl) rfl rfl ?_;refine RQ.ev (.pick_f rfl rfl) rfl rfl ?_;refine RQ.ev (.move rfl) rfl rfl ?_;refine RQ.split 18 rfl (fun h7 => ?_) (fun h7 => ?_)
  ·
   refine RQ.oS ?_;refine RQ.oS ?_;refine RQ.oS ?_;refine RQ.oS ?_;refine RQ.oS ?_;refine RQ.oS ?_;refine RQ.oS ?_;refine RQ.ev (.pick_t rfl rfl) rfl rfl ?_;refine RQ.ev (.move rfl) rfl rfl ?_;refine RQ.oS ?_;refine RQ.oS ?_;refine RQ.oS ?_;refine RQ.oS ?_;refine RQ.oS ?_;refine RQ.oS ?_;refine RQ.oS ?_;refine RQ.oS ?_;refine RQ.oS ?_;refine RQ.ev (.pick_t rfl rfl) rfl rfl ?_;refine RQ.nil (fun w8 s9 => RC.back ?_);have S := S.trans s9;have hb_2 := hb_2.sub s9;have hb_4 := hb_4.sub s9;refine RC.cond_t rfl ?_;refine RC.seq (RC.region rfl ?_);refine RL.eS (.buildS ze140 pl140 rfl rfl) ?_;refine RL.stS sh140 rfl rfl rfl hb_4 (fun w10 z10 hb_4 a10 => ?_);have S := S.upd a10 ge_4;have hb_2 := hb_2.upd a10 n_2__4
   have hb_4 : Has w10 b_4 ((bareN 0).cells) _ := hb_4.now (by kernel_rfl)
   refine RL.asS rfl ?_;refine RL.nil (RC.back ?_);refine RC.done (rs := [.cell 4 140, .tmp 5]) (vs := [_, _]) rfl rfl ⟨⟨_, rfl, .inr ⟨(bareN 0).cells, sh140, hb_4.row, rfl⟩⟩, rfl, trivial⟩ ?_
   rw [getV_no (getA_neg (by omega))]
   exact ⟨rfl, S⟩
  ·
   obtain ⟨x, hx⟩ := getSome (l := A.nodes) (i := (placeR r).toNat) (by omega)
   have hga := getA_at (by omega) hx
   refine RQ.ev (.field0 fo26_0 rfl) rfl rfl ?_;refine RQ.ev (.load1 sh23 rfl (hb_2.cell rfl)) rfl rfl ?_;refine RQ.ev (.move rfl) rfl rfl ?_;refine RQ.ev (.indexS sl23 rfl rfl (by omega) (hN.is (i := 0) (by simp only [List.length_map, List.length_cons, List.length_nil]; omega))) rfl rfl ?_;refine RQ.ev (.fieldA fo140_0 rfl) rfl rfl ?_;refine RQ.ev (.load1 sh3 rfl ((hN.sub S).cell (enc := Node.cells) (j := 0) hx rfl)) rfl rfl ?_;refine RQ.ev (.bin rfl rfl rfl) rfl rfl ?_;refine RQ.ev (.pick_f rfl rfl) rfl rfl ?_;refine RQ.ev (.move rfl) rfl rfl ?_;refine RQ.split 27 rfl (fun h11 => ?_) (fun h11 => ?_)
   ·
    have hk := h11
    refine RQ.oS ?_;refine RQ.oS ?_;refine RQ.oS ?_;refine RQ.oS ?_;refine RQ.oS ?_;refine RQ.oS ?_;refine RQ.oS ?_;refine RQ.oS ?_;refine RQ.oS ?_;refine RQ.ev (.pick_t rfl rfl) rfl rfl ?_;refine RQ.nil (fun w12 s13 => RC.back ?_);have S := S.trans s13;have hb_2 := hb_2.sub s13;have hb_4 := hb_4.sub s13;refine RC.cond_t rfl ?_;refine RC.seq (RC.region rfl ?_);refine RL.eS (.buildS ze140 pl140 rfl rfl) ?_;refine RL.stS sh140 rfl rfl rfl hb_4 (fun w14 z14 hb_4 a14 => ?_);have S := S.upd a14 ge_4;have hb_2 := hb_2.upd a14 n_2__4
    have hb_4 : Has w14 b_4 ((bareN 0).cells) _ := hb_4.now (by kernel_rfl)
    refine RL.asS rfl ?_;refine RL.nil (RC.back ?_);refine RC.done (rs := [.cell 4 140, .tmp 5]) (vs := [_, _]) rfl rfl ⟨⟨_, rfl, .inr ⟨(bareN 0).cells, sh140, hb_4.row, rfl⟩⟩, rfl, trivial⟩ ?_
    rw [getV_no (hga.trans (if_pos (.inl hk)))]
    exact ⟨rfl, S⟩
   ·
    have hk := h11
    refine RQ.ev (.field0 fo26_0 rfl) rfl rfl ?_;refine RQ.ev (.load1 sh23 rfl (hb_2.cell rfl)) rfl rfl ?_;refine RQ.ev (.move rfl) rfl rfl ?_;refine RQ.ev (.indexS sl23 rfl rfl (by omega) (hN.is (i := 0) (by simp only [List.length_map, List.length_cons, List.length_nil]; omega))) rfl rfl ?_;refine RQ.ev (.fieldA fo140_1 rfl) rfl rfl ?_;refine RQ.ev (.load1 sh3 rfl ((hN.sub S).cell (enc := Node.cells) (j := 1) hx rfl)) rfl rfl ?_;refine RQ.ev (.move rfl) rfl rfl ?_;refine RQ.call rfl ok193 (fun w' s' => c_refGen r hr w') rfl rfl ?_;refine RQ.ev (.bin rfl rfl rfl) rfl rfl ?_;refine RQ.ev (.pick_f rfl rfl) rfl rfl ?_;refine RQ.nil (fun w15 s16 => RC.back ?_);have S := S.trans s16;have hb_2 := hb_2.sub s16;have hb_4 := hb_4.sub s16;refine RC.cond_dec rfl (fun h17 => ?_) (fun h17 => ?_)
    ·
     have hg := h17
     refine RC.seq (RC.region rfl ?_);refine RL.eS (.buildS ze140 pl140 rfl rfl) ?_;refine RL.stS sh140 rfl rfl rfl hb_4 (fun w18 z18 hb_4 a18 => ?_);have S := S.upd a18 ge_4;have hb_2 := hb_2.upd a18 n_2__4
     have hb_4 : Has w18 b_4 ((bareN 0).cells) _ := hb_4.now (by kernel_rfl)
     refine RL.asS rfl ?_;refine RL.nil (RC.back ?_);refine RC.done (rs := [.cell 4 140, .tmp 5]) (vs := [_, _]) rfl rfl ⟨⟨_, rfl, .inr ⟨(bareN 0).cells, sh140, hb_4.row, rfl⟩⟩, rfl, trivial⟩ ?_
     rw [getV_no (hga.trans (if_pos (.inr hg)))]
     exact ⟨rfl, S⟩
    ·
     have hg := h17
     refine RC.skip (RC.back (RC.seq (RC.region rfl ?_)));refine RL.eS (.field0 fo26_0 rfl) ?_;refine RL.eS (.load1 sh23 rfl (hb_2.cell rfl)) ?_;refine RL.mvS rfl ?_;refine RL.eS (.indexS sl23 rfl rfl (by omega) (hN.is (i := 0) (by simp only [List.length_map, List.length_cons, List.length_nil]; omega))) ?_;refine RL.eS (.loadR (x.cells) sh140 rfl ((hN.sub S).rowAt (enc := Node.cells) hx) rfl) ?_;refine RL.stS sh140 rfl rfl rfl hb_4 (fun w19 z19 hb_4 a19 => ?_);have S := S.upd a19 ge_4
     have hb_4 : Has w19 b_4 (x.cells) _ := hb_4.now (by kernel_rfl)
     refine RL.asS rfl ?_;refine RL.nil (RC.back ?_);refine RC.done (rs := [.cell 4 140, .tmp 5]) (vs := [_, _]) rfl rfl ⟨⟨_, rfl, .inr ⟨x.cells, sh140, hb_4.row, rfl⟩⟩, rfl, trivial⟩ ?_
     rw [getV_yes (hga.trans (if_neg (by rintro (e | e); exact hk e; exact hg e)))]
     exact ⟨rfl, S⟩

theorem c_cloneNodes (l : List Node) (a : Option Addr) (c : Nat) (w : World) (hs : Sl w a 16 (l.map Node.cells)) (hl : l.length ≤ 1000) :
  FC Tryz.prog 253 [.slice a l.length c] w (fun v w' => Ows w.heap.size w' 140 16 v (l.map Node.cells) ∧ Sub w w') := by
 refine FC.intro Tryz.func253 rfl Tryz.ntmps253 rfl ?_
 have S := Sub.refl w
 refine RC.seq (RC.region rfl ?_);refine RL.asS rfl ?_;refine RL.nil (RC.back (RC.seq (RC.seq (RC.region rfl ?_))));refine RL.mvS rfl ?_;refine RL.eS (.eqNil sl23 rfl) ?_;refine RL.nil (RC.back ?_);refine RC.cond rfl (fun h1 => ?_) (fun h1 => ?_)
 ·
  have ha : a = none := Option.isNone_iff_eq_none.1 h1
  obtain rfl : l = [] := (by cases l with | nil => rfl | cons x l => exact absurd (hs.some (by simp)) (by simp [ha]))
  subst ha
  refine RC.seq (RC.region rfl ?_);refine RL.asS rfl ?_;refine RL.nil (RC.back ?_);refine RC.d1 2 rfl rfl rfl ?_
  exact ⟨Ows.nil _ _ _ _, S⟩
 ·
  refine RC.skip (RC.back (RC.seq (RC.region rfl ?_)));refine RL.buildSlice0 sl23 rfl rfl (fun b_5 w_5 e_5 z_5 hb_5 s_5 => ?_);have S := S.trans s_5;refine RL.mvS rfl ?_;have sz_7 := S.size
  have ltb_5_7 := hb_5.lt
  refine RL.append2 (base := w.heap.size) (rows := []) (news := l.map Node.cells) sl23 ze140 rfl rfl rfl rfl (.inl (Ows.lit0 hb_5 (by omega))) (hs.sub S) (by (try simp only [List.length_map]); first | done | rfl) (by intro r hr; obtain ⟨x, _, rfl⟩ := List.mem_map.1 hr; rfl) (by rw [List.all_eq_true]; intro r hr; obtain ⟨x, _, rfl⟩ := List.mem_map.1 hr; rfl) (by (try simp only [List.length_map, List.length_nil, List.length_append, List.length_cons]); omega) (by (try simp only [List.length_map, List.length_nil, List.length_append, List.length_cons]); omega) (by omega) rfl rfl (fun v_7 w_7 hc_7 ho_7 ag_7 ob_7 => ?_)
  have S := S.agrN ag_7 (fun k e => Nat.le_trans (by omega) e.2)
  refine RL.asS rfl ?_;refine RL.nil (RC.back ?_);refine RC.d1 2 rfl rfl rfl ?_
  exact ⟨ho_7 (.inr (Ows.lit0 hb_5 (by omega))), S⟩

def ar0 : Ar := ⟨[], []⟩
def arV0 : Value := .agg #[.slice none 0 0, .slice none 0 0]
def newFree (n i : Nat) : List Int := (List.range i).map fun (j : Nat) => (n : Int) - 1 - j
def newA (n : Nat) : Ar := ⟨List.replicate n (bareN 0), newFree n n⟩
theorem newFree_succ (n i : Nat) : newFree n (i + 1) = newFree n i ++ [(n : Int) - 1 - i] := by
  simp [newFree, List.range_succ]
theorem newFree_len (n i : Nat) : (newFree n i).length = i := by simp [newFree]

def ArI (w w' : World) (na fa : Option Addr) (A : Ar) (na' fa' : Option Addr) (A' : Ar) : Prop :=
  ∀ N : Nat → Prop, (∀ k, N k → k < w.heap.size) → Imm N (fun u => ArR u na fa A) w → Imm N (fun u => ArR u na' fa' A') w'
def ArO (w w' : World) (na fa : Option Addr) (A : Ar) (v : Value) (A' : Ar) : Prop :=
  ∃ na' fa' nc' fc', v = arV na' fa' nc' fc' A' ∧ A'.nodes.length ≤ nc' ∧ A'.free.length ≤ fc' ∧ ArI w w' na fa A na' fa' A'
theorem c_aNew (n : Nat) (hn : 1 ≤ n ∧ n ≤ 512) (w : World) : FC Tryz.prog 10 [.int .i64 n] w (fun v w' => ∃ na fa nc fc, v = .tuple #[arV na fa nc fc (newA n), .int .i64 0] ∧ (newA n).nodes.length ≤ nc ∧ (newA n).free.length ≤ fc ∧ (∀ N : Nat → Prop, (∀ k, N k → k < w.heap.size) → Imm N (fun u => ArR u na fa (newA n)) w') ∧ Sub w w') := by
  refine FC.intro Tryz.func10 rfl Tryz.ntmps10 rfl ?_
  have S := Sub.refl w
  refine RC.seq (RC.region rfl ?_);refine RL.alloc ze26 rfl rfl (fun b_2 w_2 e_2 z_2 hb_2 s_2 => ?_);have ge_2 := S.le e_2;have S := S.trans s_2;refine RL.asS rfl ?_;refine RL.nil (RC.back (RC.seq (RC.seq (RC.region rfl ?_))));refine RL.mvS rfl ?_;refine RL.eS (.bin rfl rfl rfl) ?_;refine RL.mvS rfl ?_;refine RL.split 8 rfl (fun h1 => ?_) (fun h1 => ?_)
  ·
    exact absurd h1 (by omega)
  ·
    refine RL.mvS rfl ?_;refine RL.eS (.bin rfl rfl rfl) ?_;refine RL.eS (.pick_f rfl rfl) ?_;refine RL.nil (RC.back ?_);refine RC.cond_dec rfl (fun h2 => ?_) (fun h2 => ?_)
    ·
      exact absurd h2 (by omega)
    ·
      refine RC.skip (RC.back (RC.seq (RC.region rfl ?_)));refine RL.mvS rfl ?_;refine RL.makeSlice sl23 ze140 rfl rfl rfl rfl (by omega) rfl rfl (fun b_14 w_14 e_14 z_14 hb_14 s_14 => ?_);have n_2__14 := hb_2.ne e_14;have S := S.trans s_14;have hb_2 := hb_2.sub s_14;refine RL.eS (.buildS ze26 pl26 rfl rfl) ?_;refine RL.alloc ze26 rfl rfl (fun b_4 w_4 e_4 z_4 hb_4 s_4 => ?_);have ge_4 := S.le e_4;have n_2__4 := hb_2.ne e_4;have n_14__4 := hb_14.ne e_4;have S := S.trans s_4;have hb_2 := hb_2.sub s_4;have hb_14 := hb_14.sub s_4;refine RL.stS sh26 rfl rfl rfl hb_4 (fun w3 z3 hb_4 a3 => ?_);have S := S.upd a3 ge_4;have hb_2 := hb_2.upd a3 n_2__4;have hb_14 := hb_14.upd a3 n_14__4
      have hb_4 : Has w3 b_4 ([.slice (some ⟨b_14, 0, none⟩) n n, .slice none 0 0]) _ := hb_4.now (by kernel_rfl)
      refine RL.nil (RC.back (RC.seq (RC.seq (RC.region rfl ?_))));refine RL.mvS rfl ?_;refine RL.mvS rfl ?_
      have lt_2 := hb_2.lt
      have lt_4 := hb_4.lt
      have lt_14 := hb_14.lt
      obtain ⟨B, szB⟩ : ∃ B, B = w3.heap.size := ⟨_, rfl⟩
      refine RL.nil (RC.back (RC.block ?_));refine RC.loop (α := Nat × Value) (fun x => [(0, .int .i64 (n : Int)), (4, .pointer (some ⟨b_4, 0, none⟩)), (2, .pointer (some ⟨b_2, 0, none⟩)), (16, .int .i64 (n : Int)), (17, .int .i64 (x.1 : Int))]) (fun x w4 => x.1 ≤ n ∧ Ows B w4 3 1 x.2 ((newFree n x.1).map fun x => [i6 x]) ∧ Has w4 b_4 [.slice (some ⟨b_14, 0, none⟩) n n, x.2] 26 ∧ Has w4 b_2 [.slice none 0 0, .slice none 0 0] 26 ∧ Has w4 b_14 (List.replicate n (bareN 0).cells).flatten 140 ∧ B ≤ w4.heap.size ∧ Sub w w4) (fun x => n - x.1) (0, .slice none 0 0) (keep_of (by repeat (first | exact trivial | refine And.intro rfl ?_))) (⟨Nat.zero_le _, Ows.nil _ _ _ _, hb_4, hb_2, by have := hb_14; rw [Int.toNat_natCast] at this; exact this, by omega, S⟩) (fun x w4 hJ => ?_)
      obtain ⟨i, u⟩ := x; obtain ⟨hi, ho, hb_4, hb_2, hb_14, szB, S⟩ := hJ
      refine RC.seq (RC.region rfl ?_);refine RL.eS (.bin rfl rfl rfl) ?_;refine RL.nil (RC.back (RC.seq ?_));refine RC.cond_dec rfl (fun h5 => ?_) (fun h5 => ?_)
      ·
        refine RC.skip (RC.back (RC.seq (RC.block (RC.seq (RC.region rfl ?_)))));refine RL.mvS rfl ?_;refine RL.asS rfl ?_;refine RL.nil (RC.back (RC.region rfl ?_));refine RL.eS (.field0 fo26_1 rfl) ?_;refine RL.eS (.load1 sh24 rfl (hb_4.cell rfl)) ?_;refine RL.mvS rfl ?_;refine RL.eS (.as (.bin rfl rfl rfl) (wi64 (y := (n : Int) - 1) (by rfl) (by omega))) ?_;refine RL.mvS rfl ?_;refine RL.eS (.as (.bin rfl rfl rfl) (wi64 (y := (n : Int) - 1 - (i : Int)) (by rfl) (by omega))) ?_;refine RL.buildSlice1 sl24 _ ze3 rfl rfl rfl rfl rfl rfl rfl (fun b_26 w_26 e_26 z_26 hb_26 s_26 => ?_);have S := S.trans s_26;have hb_2 := hb_2.sub s_26;have hb_4 := hb_4.sub s_26;have hb_14 := hb_14.sub s_26;have szB := Nat.le_trans szB s_26.size;have ho := ho.sub s_26;have sz_27 := S.size
        have ltb_2_27 := hb_2.lt
        have ltb_4_27 := hb_4.lt
        have ltb_14_27 := hb_14.lt
        have ltb_26_27 := hb_26.lt
        refine RL.append2 (base := B) (rows := (newFree n i).map fun x => [i6 x]) (news := [_]) sl24 ze3 rfl rfl rfl rfl (.inl ho) (Has.slOne hb_26) rfl (by intro r hr; rw [List.mem_singleton] at hr; subst hr; rfl) rfl (by (try simp only [List.length_map, List.length_nil, List.length_append, List.length_cons]); rw [newFree_len]; omega) (by (try simp only [List.length_map, List.length_nil, List.length_append, List.length_cons]); rw [newFree_len]; omega) (by omega) rfl rfl (fun v_27 w_27 hc_27 ho_27 ag_27 ob_27 => ?_)
        have S := S.agrN ag_27 (fun k e => Nat.le_trans (by omega) e.2)
        have hb_2 := hb_2.step ag_27 (fun e => absurd e.2 (by omega));have hb_4 := hb_4.step ag_27 (fun e => absurd e.2 (by omega));have hb_14 := hb_14.step ag_27 (fun e => absurd e.2 (by omega));have szB := Nat.le_trans szB ag_27.size
        have hO := ho_27 (.inl (by simp))
        rw [show (newFree n i).map (fun x => [i6 x]) ++ [_] = (newFree n (i + 1)).map (fun x => [i6 x]) from by rw [newFree_succ, List.map_append]; rfl] at hO
        obtain ⟨a_27, c_27, rfl, k_27⟩ := hO.form
        refine RL.eS (.field0 fo26_1 rfl) ?_;refine RL.stS sh24 rfl rfl rfl hb_4 (fun w6 z6 hb_4 a6 => ?_);have S := S.upd a6 ge_4;have hb_2 := hb_2.upd a6 n_2__4;have hb_14 := hb_14.upd a6 n_14__4;have szB := Nat.le_trans szB a6.size;have hO := hO.upd a6 (by omega)
        have hb_4 : Has w6 b_4 ([.slice (some ⟨b_14, 0, none⟩) n n, .slice a_27 ((newFree n (i + 1)).map fun x => [i6 x]).length c_27]) _ := hb_4
        refine RL.nil (RC.back (RC.region rfl ?_));refine RL.eS (.as (.bin rfl rfl rfl) (wi64 (y := ((i + 1 : Nat) : Int)) (by omega) (by omega))) ?_;refine RL.mvS rfl ?_
        exact RL.nil (fun a ka => ⟨(i + 1, _), ⟨by omega, hO, hb_4, hb_2, hb_14, szB, S⟩, by omega, ka.keep (keep_of (by repeat (first | exact trivial | refine And.intro rfl ?_)))⟩)
      ·
        obtain rfl : n = i := (by omega)
        obtain ⟨a_u, c_u, hu, k_u⟩ := ho.form
        simp only [] at hu
        subst hu
        refine RC.exit rfl (RC.back (RC.seq (RC.region rfl ?_)));refine RL.eS (.loadR ([.slice (some ⟨b_14, 0, none⟩) n n, .slice a_u ((newFree n n).map fun x => [i6 x]).length c_u]) sh26 rfl hb_4.row rfl) ?_;refine RL.stS sh26 rfl rfl rfl hb_2 (fun w7 z7 hb_2 a7 => ?_);have S := S.upd a7 ge_2;have hb_14 := hb_14.upd a7 n_2__14.symm;have szB := Nat.le_trans szB a7.size;have ho := ho.upd a7 (by omega)
        have hb_2 : Has w7 b_2 ([.slice (some ⟨b_14, 0, none⟩) n n, .slice a_u ((newFree n n).map fun x => [i6 x]).length c_u]) _ := hb_2.now (by kernel_rfl)
        refine RL.asS rfl ?_;refine RL.nil (RC.back ?_);refine RC.done (rs := [.cell 2 26, .tmp 3]) (vs := [_, _]) rfl rfl ⟨⟨_, rfl, .inr ⟨[.slice (some ⟨b_14, 0, none⟩) n n, .slice a_u ((newFree n n).map fun x => [i6 x]).length c_u], sh26, hb_2.row, rfl⟩⟩, rfl, trivial⟩ ?_
        refine ⟨some ⟨b_14, 0, none⟩, a_u, n, c_u, ?_, by simp [newA], by simpa [newA] using k_u, fun N hN W hW => ⟨?_, (ho.imm (N := N) (fun k hk => by have := hN k hk; omega)) W hW, ?_, ?_⟩, S⟩
        · simp only [arV, newA, List.length_replicate, List.length_map]; rfl
        · show Sl W _ 16 ((List.replicate n (bareN 0)).map Node.cells)
          rw [List.map_replicate]
          exact Has.sl0 (hb_14.step hW (fun e => by have := hN _ e; omega)) (fun r hr => by rw [(List.mem_replicate.1 hr).2]; rfl)
        · intro x hx
          rw [newA] at hx
          rw [(List.mem_replicate.1 hx).2]
          exact bareN_ok z64
        · intro x hx
          obtain ⟨j, hj, rfl⟩ := List.mem_map.1 hx
          have := List.mem_range.1 hj
          unfold I64
          omega

def x0 (x : Node) : Node := { x with gen := 0 }
theorem x0_ok {x : Node} (h : x.ok) : (x0 x).ok := ⟨h.kind, z64, h.n, h.v, h.s, h.kids, h.pre, h.suf⟩
def mayMake (A : Ar) (x : Node) : Prop := AOk A ∧ 1 ≤ x.kind ∧ x.kind ≤ 100 ∧ well (x0 x) = true
def lastAt (A : Ar) : Int := A.free.getD (A.free.length - 1) 0
def genAt (A : Ar) (p : Int) : Int := (A.nodes.getD p.toNat (bareN 0)).gen
def madeN (A : Ar) (x : Node) : Node := { x with gen := genAt A (lastAt A) }
def makeA (A : Ar) (x : Node) : Ar := ⟨A.nodes.set (lastAt A).toNat (madeN A x), A.free.take (A.free.length - 1)⟩
def makeR (A : Ar) : Int := ofR (lastAt A) (genAt A (lastAt A))
theorem lastAt_get {A : Ar} (h : 0 < A.free.length) : A.free[A.free.length - 1]? = some (lastAt A) := by
  rw [lastAt, List.getD_eq_getElem?_getD, List.getElem?_eq_getElem (by omega)]; rfl
theorem lastAt_in {A : Ar} (hA : AOk A) (h : 0 < A.free.length) : 0 ≤ lastAt A ∧ lastAt A < A.nodes.length := hA.free _ (List.mem_of_getElem? (lastAt_get h))
theorem genAt_get {A : Ar} {p : Int} {y : Node} (h : A.nodes[p.toNat]? = some y) : genAt A p = y.gen := by
  rw [genAt, List.getD_eq_getElem?_getD, h]; rfl
theorem genAt_rng {A : Ar} (hA : AOk A) {p : Int} (h : 0 ≤ p ∧ p < A.nodes.length) : 0 ≤ genAt A p ∧ genAt A p ≤ 1048576 := by
  obtain ⟨y, hy⟩ := getSome (l := A.nodes) (i := p.toNat) (by omega)
  rw [genAt_get hy]
  have := (well_iff y).1 (hA.well y (List.mem_of_getElem? hy))
  omega
theorem make_isR {A : Ar} (hA : AOk A) (h : 0 < A.free.length) : isR (lastAt A) (genAt A (lastAt A)) = true := by
  have h1 := lastAt_in hA h
  have h2 := genAt_rng hA h1
  have := hA.most
  rw [isR_iff]; omega

theorem c_aMake (A : Ar) (na fa : Option Addr) (nc fc : Nat) (x : Node) (hx : x.ok) (w : World) (hA : ArR w na fa A) (hfc : A.free.length ≤ fc) :
    FC Tryz.prog 219 [arV na fa nc fc A, x.val] w (fun v w' => Sub w w' ∧ (¬ mayMake A x ∧ v = .tuple #[arV0, .int .u64 0, .int .i64 1] ∨ mayMake A x ∧ A.free.length = 0 ∧ v = .tuple #[arV0, .int .u64 0, .int .i64 2] ∨
      mayMake A x ∧ 0 < A.free.length ∧ ∃ av, v = .tuple #[av, .int .u64 (makeR A), .int .i64 0] ∧ ArO w w' na fa A av (makeA A x))) := by
  have hN := hA.nodes
  have hFr := hA.free
  refine FC.intro Tryz.func219 rfl Tryz.ntmps219 rfl ?_
  have S := Sub.refl w
  have ek : (x0 x).kind = x.kind := rfl
  refine RC.seq (RC.region rfl ?_);refine RL.box rfl rfl rfl (fun b_2 w_2 e_2 z_2 hb_2 s_2 => ?_);have ge_2 := S.le e_2;have S := S.trans s_2
  have hb_2 : Has w_2 b_2 ([.slice na A.nodes.length nc, .slice fa A.free.length fc]) _ := hb_2
  refine RL.box rfl rfl rfl (fun b_3 w_3 e_3 z_3 hb_3 s_3 => ?_);have ge_3 := S.le e_3;have n_2__3 := hb_2.ne e_3;have S := S.trans s_3;have hb_2 := hb_2.sub s_3
  have hb_3 : Has w_3 b_3 (x.cells) _ := hb_3
  refine RL.alloc ze26 rfl rfl (fun b_4 w_4 e_4 z_4 hb_4 s_4 => ?_);have ge_4 := S.le e_4;have n_2__4 := hb_2.ne e_4;have n_3__4 := hb_3.ne e_4;have S := S.trans s_4;have hb_2 := hb_2.sub s_4;have hb_3 := hb_3.sub s_4;refine RL.asS rfl ?_;refine RL.asS rfl ?_;refine RL.nil (RC.back (RC.seq (RC.region rfl ?_)));refine RL.eS (.field0 fo140_1 rfl) ?_;refine RL.stS sh3 rfl rfl rfl hb_3 (fun w1 z1 hb_3 a1 => ?_);have S := S.upd a1 ge_3;have hb_2 := hb_2.upd a1 n_2__3;have hb_4 := hb_4.upd a1 n_3__4.symm
  have hb_3 : Has w1 b_3 ((x0 x).cells) _ := hb_3
  refine RL.nil (RC.back (RC.seq (RC.block (RC.seq (RC.region rfl ?_)))));refine RL.eS (.loadR ([.slice na A.nodes.length nc, .slice fa A.free.length fc]) sh26 rfl hb_2.row rfl) ?_;refine RL.call rfl ok109 (c_aRight A na fa nc fc w1 (hA.sub S)) rfl rfl ?_;rintro _ w2 ⟨rfl, s3⟩;have S := S.trans s3;have hb_2 := hb_2.sub s3;have hb_3 := hb_3.sub s3;have hb_4 := hb_4.sub s3;refine RL.eS (.not rfl) ?_;refine RL.mvS rfl ?_;refine RL.splitB 16 rfl (fun h4 => ?_) (fun h4 => ?_)
  ·
    have q1 : ¬ AOk A := (fun h => by have h2 := h4; rw [aokB_yes h] at h2; cases h2)
    refine RL.offs 3 rfl ?_;refine RL.eS (.pick_t rfl rfl) ?_;refine RL.mvS rfl ?_;refine RL.offs 3 rfl ?_;refine RL.eS (.pick_t rfl rfl) ?_;refine RL.mvS rfl ?_;refine RL.offs 3 rfl ?_;refine RL.eS (.pick_t rfl rfl) ?_;refine RL.asS rfl ?_;refine RL.nil (RC.back ?_);refine RC.cond_t rfl ?_;refine RC.seq (RC.region rfl ?_);refine RL.eS (.buildS ze26 pl26 rfl rfl) ?_;refine RL.stS sh26 rfl rfl rfl hb_4 (fun w5 z5 hb_4 a5 => ?_);have S := S.upd a5 ge_4;have hb_2 := hb_2.upd a5 n_2__4;have hb_3 := hb_3.upd a5 n_3__4
    have hb_4 : Has w5 b_4 ([.slice none 0 0, .slice none 0 0]) _ := hb_4.now (by kernel_rfl)
    refine RL.asS rfl ?_;refine RL.asS rfl ?_;refine RL.nil (RC.back ?_);refine RC.done (rs := [.cell 4 26, .tmp 5, .tmp 6]) (vs := [_, _, _]) rfl rfl ⟨⟨_, rfl, .inr ⟨[.slice none 0 0, .slice none 0 0], sh26, hb_4.row, rfl⟩⟩, rfl, rfl, trivial⟩ ?_
    exact ⟨S, .inl ⟨fun h => q1 h.1, rfl⟩⟩
  ·
    have hok : AOk A := (aokB_iff A).1 (by simpa using h4)
    have hmost := hok.most
    have hone := hok.one
    have hfit := hok.fit
    refine RL.eS (.field0 fo140_0 rfl) ?_;refine RL.eS (.load1 sh3 rfl (hb_3.cell rfl)) ?_;refine RL.eS (.bin rfl rfl rfl) ?_;refine RL.eS (.pick_f rfl rfl) ?_;refine RL.mvS rfl ?_;refine RL.split 21 rfl (fun h6 => ?_) (fun h6 => ?_)
    ·
      refine RL.offs 3 rfl ?_;refine RL.eS (.pick_t rfl rfl) ?_;refine RL.mvS rfl ?_;refine RL.offs 3 rfl ?_;refine RL.eS (.pick_t rfl rfl) ?_;refine RL.asS rfl ?_;refine RL.nil (RC.back ?_);refine RC.cond_t rfl ?_;refine RC.seq (RC.region rfl ?_);refine RL.eS (.buildS ze26 pl26 rfl rfl) ?_;refine RL.stS sh26 rfl rfl rfl hb_4 (fun w7 z7 hb_4 a7 => ?_);have S := S.upd a7 ge_4;have hb_2 := hb_2.upd a7 n_2__4;have hb_3 := hb_3.upd a7 n_3__4
      have hb_4 : Has w7 b_4 ([.slice none 0 0, .slice none 0 0]) _ := hb_4.now (by kernel_rfl)
      refine RL.asS rfl ?_;refine RL.asS rfl ?_;refine RL.nil (RC.back ?_);refine RC.done (rs := [.cell 4 26, .tmp 5, .tmp 6]) (vs := [_, _, _]) rfl rfl ⟨⟨_, rfl, .inr ⟨[.slice none 0 0, .slice none 0 0], sh26, hb_4.row, rfl⟩⟩, rfl, rfl, trivial⟩ ?_
      exact ⟨S, .inl ⟨fun h => by have := h.2.1; omega, rfl⟩⟩
    ·
      refine RL.eS (.field0 fo140_0 rfl) ?_;refine RL.eS (.load1 sh3 rfl (hb_3.cell rfl)) ?_;refine RL.eS (.bin rfl rfl rfl) ?_;refine RL.eS (.pick_f rfl rfl) ?_;refine RL.mvS rfl ?_;refine RL.split 26 rfl (fun h8 => ?_) (fun h8 => ?_)
      ·
        refine RL.offs 3 rfl ?_;refine RL.eS (.pick_t rfl rfl) ?_;refine RL.asS rfl ?_;refine RL.nil (RC.back ?_);refine RC.cond_t rfl ?_;refine RC.seq (RC.region rfl ?_);refine RL.eS (.buildS ze26 pl26 rfl rfl) ?_;refine RL.stS sh26 rfl rfl rfl hb_4 (fun w9 z9 hb_4 a9 => ?_);have S := S.upd a9 ge_4;have hb_2 := hb_2.upd a9 n_2__4;have hb_3 := hb_3.upd a9 n_3__4
        have hb_4 : Has w9 b_4 ([.slice none 0 0, .slice none 0 0]) _ := hb_4.now (by kernel_rfl)
        refine RL.asS rfl ?_;refine RL.asS rfl ?_;refine RL.nil (RC.back ?_);refine RC.done (rs := [.cell 4 26, .tmp 5, .tmp 6]) (vs := [_, _, _]) rfl rfl ⟨⟨_, rfl, .inr ⟨[.slice none 0 0, .slice none 0 0], sh26, hb_4.row, rfl⟩⟩, rfl, rfl, trivial⟩ ?_
        exact ⟨S, .inl ⟨fun h => by have := h.2.2.1; omega, rfl⟩⟩
      ·
        refine RL.eS (.loadR ((x0 x).cells) sh140 rfl hb_3.row rfl) ?_;refine RL.call rfl ok182 (c_well (x0 x) (x0_ok hx) w2) rfl rfl ?_;rintro _ w10 ⟨rfl, s11⟩;have S := S.trans s11;have hb_2 := hb_2.sub s11;have hb_3 := hb_3.sub s11;have hb_4 := hb_4.sub s11;refine RL.eS (.not rfl) ?_;refine RL.eS (.pick_f rfl rfl) ?_;refine RL.asS rfl ?_;refine RL.nil (RC.back ?_);refine RC.cond rfl (fun h12 => ?_) (fun h12 => ?_)
        ·
          have q2 := h12
          refine RC.seq (RC.region rfl ?_);refine RL.eS (.buildS ze26 pl26 rfl rfl) ?_;refine RL.stS sh26 rfl rfl rfl hb_4 (fun w13 z13 hb_4 a13 => ?_);have S := S.upd a13 ge_4;have hb_2 := hb_2.upd a13 n_2__4;have hb_3 := hb_3.upd a13 n_3__4
          have hb_4 : Has w13 b_4 ([.slice none 0 0, .slice none 0 0]) _ := hb_4.now (by kernel_rfl)
          refine RL.asS rfl ?_;refine RL.asS rfl ?_;refine RL.nil (RC.back ?_);refine RC.done (rs := [.cell 4 26, .tmp 5, .tmp 6]) (vs := [_, _, _]) rfl rfl ⟨⟨_, rfl, .inr ⟨[.slice none 0 0, .slice none 0 0], sh26, hb_4.row, rfl⟩⟩, rfl, rfl, trivial⟩ ?_
          exact ⟨S, .inl ⟨fun h => (by rw [h.2.2.2] at q2; cases q2), rfl⟩⟩
        ·
          have hm : mayMake A x := ⟨hok, by omega, by omega, by simpa using h12⟩
          refine RC.seq (RC.region rfl ?_);refine RL.eS (.field0 fo26_1 rfl) ?_;refine RL.eS (.load1 sh24 rfl (hb_2.cell rfl)) ?_;refine RL.eS (.len sl24 rfl) ?_;refine RL.eS (.bin rfl rfl rfl) ?_;refine RL.asS rfl ?_;refine RL.nil (RC.back ?_);refine RC.cond_dec rfl (fun h14 => ?_) (fun h14 => ?_)
          ·
            refine RC.seq (RC.region rfl ?_);refine RL.eS (.buildS ze26 pl26 rfl rfl) ?_;refine RL.stS sh26 rfl rfl rfl hb_4 (fun w15 z15 hb_4 a15 => ?_);have S := S.upd a15 ge_4;have hb_2 := hb_2.upd a15 n_2__4;have hb_3 := hb_3.upd a15 n_3__4
            have hb_4 : Has w15 b_4 ([.slice none 0 0, .slice none 0 0]) _ := hb_4.now (by kernel_rfl)
            refine RL.asS rfl ?_;refine RL.asS rfl ?_;refine RL.nil (RC.back ?_);refine RC.done (rs := [.cell 4 26, .tmp 5, .tmp 6]) (vs := [_, _, _]) rfl rfl ⟨⟨_, rfl, .inr ⟨[.slice none 0 0, .slice none 0 0], sh26, hb_4.row, rfl⟩⟩, rfl, rfl, trivial⟩ ?_
            exact ⟨S, .inr (.inl ⟨hm, by omega, rfl⟩)⟩
          ·
            have hpos : 0 < A.free.length := (by omega)
            have hat := lastAt_in hok hpos
            have hgr := genAt_rng hok hat
            obtain ⟨y, hy⟩ := getSome (l := A.nodes) (i := (lastAt A).toNat) (by omega)
            have hgy := genAt_get hy
            refine RC.skip (RC.back (RC.seq (RC.region rfl ?_)));refine RL.eS (.field0 fo26_1 rfl) ?_;refine RL.eS (.load1 sh24 rfl (hb_2.cell rfl)) ?_;refine RL.eS (.len sl24 rfl) ?_;refine RL.eS (.as (.bin rfl rfl rfl) (wi64 (y := ((A.free.length - 1 : Nat) : Int)) (by omega) (by omega))) ?_;refine RL.asS rfl ?_;refine RL.nil (RC.back (RC.seq (RC.region rfl ?_)));refine RL.eS (.field0 fo26_1 rfl) ?_;refine RL.eS (.load1 sh24 rfl (hb_2.cell rfl)) ?_;refine RL.mvS rfl ?_;refine RL.eS (.indexS sl24 rfl rfl (by omega) (hFr.is (i := 0) (by simp only [List.length_map, List.length_cons, List.length_nil]; omega))) ?_;refine RL.eS (.as (v' := .int .i64 (lastAt A)) (.load1 sh3 rfl ((hFr.sub S).one (enc := i6) (i := A.free.length - 1) (x := lastAt A) (by exact lastAt_get hpos))) (by rfl)) ?_;refine RL.asS rfl ?_;refine RL.nil (RC.back (RC.seq (RC.region rfl ?_)));refine RL.eS (.field0 fo26_0 rfl) ?_;refine RL.eS (.load1 sh23 rfl (hb_2.cell rfl)) ?_;refine RL.mvS rfl ?_;refine RL.eS (.indexS sl23 rfl rfl (by omega) (hN.is (i := 0) (by simp only [List.length_map, List.length_cons, List.length_nil]; omega))) ?_;refine RL.eS (.fieldA fo140_1 rfl) ?_;refine RL.eS (.as (v' := .int .i64 (genAt A (lastAt A))) (.load1 sh3 rfl ((hN.sub S).cell (enc := Node.cells) (j := 1) hy rfl)) (by rw [hgy])) ?_;refine RL.eS (.field0 fo140_1 rfl) ?_;refine RL.stS sh3 rfl rfl rfl hb_3 (fun w16 z16 hb_3 a16 => ?_);have S := S.upd a16 ge_3;have hb_2 := hb_2.upd a16 n_2__3;have hb_4 := hb_4.upd a16 n_3__4.symm
            have hb_3 : Has w16 b_3 ((madeN A x).cells) _ := hb_3
            refine RL.nil (RC.back ?_);refine RC.cutx (α := Option Addr × Nat) (fun x_ => [(2, .pointer (some ⟨b_2, 0, none⟩)), (3, .pointer (some ⟨b_3, 0, none⟩)), (4, .pointer (some ⟨b_4, 0, none⟩)), (8, .int .i64 (lastAt A))]) (fun x_ w17 => ∃ B, b_2 < B ∧ b_3 < B ∧ b_4 < B ∧ w.heap.size ≤ B ∧ Ows B w17 140 16 (.slice x_.1 (A.nodes.map Node.cells).length x_.2) (A.nodes.map Node.cells) ∧ Has w17 b_2 [.slice x_.1 (A.nodes.map Node.cells).length x_.2, .slice fa (A.free.length - 1) (A.free.length - 1)] 26 ∧ Has w17 b_3 (madeN A x).cells 140 ∧ Has w17 b_4 [.slice none 0 0, .slice none 0 0] 26 ∧ Sub w w17) ?_ (fun x_ w17 hJ => ?_)
            ·
              refine RC.drawD (fun k => k = b_2) [9, 11] w16.heap.size 12 rfl rfl mxo (fun w18 s19 => ?_)
              have hNN : ∀ k, ((k = b_2) ∨ w16.heap.size ≤ k) → w.heap.size ≤ k := fun k e => e.elim (fun e => e ▸ ge_2) (fun e => Nat.le_trans S.size e)
              have hN0 : ∀ k, w16.heap.size ≤ k → w.heap.size ≤ k := fun k e => Nat.le_trans S.size e
              have ltD_b_2 := hb_2.lt;have ltD_b_3 := hb_3.lt;have ltD_b_4 := hb_4.lt;have szD := Nat.le_refl w16.heap.size;have S := S.trans s19;have hb_2 := hb_2.sub s19;have hb_3 := hb_3.sub s19;have hb_4 := hb_4.sub s19;have szD := Nat.le_trans szD s19.size;refine RD.tS 0 rfl (fun w' s' => .field0 fo26_0 rfl) ?_;refine RD.takeL 1 rfl (by kernel_rfl) (by kernel_rfl) (by kernel_rfl) (by kernel_rfl) (fun w' s' => .load1 sh23 rfl ((hb_2.step s' (fun e => Nat.not_le.2 ltD_b_2 e)).cell rfl)) rfl rfl ?_;refine RD.tS 3 rfl (fun w' s' => .field0 fo26_1 rfl) ?_;refine RD.takeL 4 rfl (by kernel_rfl) (by kernel_rfl) (by kernel_rfl) (by kernel_rfl) (fun w' s' => .load1 sh24 rfl ((hb_2.step s' (fun e => Nat.not_le.2 ltD_b_2 e)).cell rfl)) rfl rfl ?_;refine RD.tS 5 rfl (fun w' s' => .move rfl) ?_;refine RD.tS 6 rfl (fun w' s' => .move rfl) ?_;refine RD.tS 7 rfl (fun w' s' => .sliceHM sl24 rfl rfl rfl (by omega)) ?_;refine RD.oneS 2 rfl ?_;refine RL.call rfl ok253 (c_cloneNodes A.nodes na nc w18 (hN.sub S) (by omega)) rfl rfl ?_;rintro u w20 ⟨ho, s21⟩
              have ltc := hb_2.lt
              have szC := szD;have S := S.trans s21;have hb_2 := hb_2.sub s21;have hb_3 := hb_3.sub s21;have hb_4 := hb_4.sub s21
              obtain ⟨ca, cc, rfl, kc⟩ := ho.form
              refine RD.back s21.agr ?_;refine RD.tS 8 rfl (fun w' s' => .field0 fo26_0 rfl) ?_;refine RD.oneS 9 rfl ?_;refine RL.stS sh23 rfl rfl rfl hb_2 (fun w22 z22 hb_2 a22 => ?_);have S := S.upd a22 ge_2;have hb_3 := hb_3.upd a22 n_2__3.symm;have hb_4 := hb_4.upd a22 n_2__4.symm;have ho := ho.upd a22 (by omega);refine RD.backW rfl (a22.mono fun k _ e => e ▸ (.inl (rfl))) ?_;refine RD.tS 10 rfl (fun w' s' => .field0 fo26_1 rfl) ?_;refine RD.oneS 11 rfl ?_;refine RL.stS sh24 rfl rfl rfl hb_2 (fun w23 z23 hb_2 a23 => ?_);have S := S.upd a23 ge_2;have hb_3 := hb_3.upd a23 n_2__3.symm;have hb_4 := hb_4.upd a23 n_2__4.symm;have ho := ho.upd a23 (by omega);refine RD.backW rfl (a23.mono fun k _ e => e ▸ (.inl (rfl))) ?_
              exact RD.done (by kernel_rfl) (fun a ka => ⟨(ca, cc), ⟨_, ltc, by have := ltD_b_3; have := szC; omega, by have := ltD_b_4; have := szC; omega, by omega, ho, hb_2, hb_3, hb_4, S⟩, ka.keep (keep_of (by repeat (first | exact trivial | refine And.intro rfl ?_)))⟩)
            obtain ⟨ca, cc⟩ := x_
            obtain ⟨B, q_2, q_3, q_4, q_w, ho, hb_2, hb_3, hb_4, S⟩ := hJ
            obtain ⟨b_C, cap_C, ex_C, f_C, g_C, k_C, m_C, hb_C, l_C⟩ := ho.has (by simp only [List.length_map]; omega)
            have ge_C := Nat.le_trans q_w g_C
            simp only [Value.slice.injEq, true_and] at f_C
            obtain ⟨rfl, rfl⟩ := f_C
            have nb_C_b_2 : b_C ≠ b_2 := by omega
            have nb_C_b_3 : b_C ≠ b_3 := by omega
            have nb_C_b_4 : b_C ≠ b_4 := by omega
            refine RC.seq (RC.region rfl ?_);refine RL.eS (.field0 fo26_0 rfl) ?_;refine RL.eS (.load1 sh23 rfl (hb_2.cell rfl)) ?_;refine RL.mvS rfl ?_;refine RL.eS (.loadR ((madeN A x).cells) sh140 rfl hb_3.row rfl) ?_;refine RL.eS (.indexO sl23 rfl rfl (by simp only [List.length_map]; omega)) ?_;refine RL.store sh140 rfl rfl rfl hb_C (by rw [List.length_append, flat_len (sz := 16) _ (fun r hr => by obtain ⟨z, _, rfl⟩ := List.mem_map.1 hr; rfl), List.length_map]; show _ + 16 ≤ _; omega) (by rfl) rfl (fun w24 z24 hb_C a24 => ?_);have S := S.upd a24 ge_C;have hb_2 := hb_2.upd a24 nb_C_b_2.symm;have hb_3 := hb_3.upd a24 nb_C_b_3.symm;have hb_4 := hb_4.upd a24 nb_C_b_4.symm
            rw [Nat.zero_add] at hb_C
            have hb_C := Has.row_set hb_C (fun r hr => by obtain ⟨z, _, rfl⟩ := List.mem_map.1 hr; rfl) (by rw [List.length_map]; omega) rfl
            refine RL.nil (RC.back (RC.seq (RC.region rfl ?_)));refine RL.mvS rfl ?_;refine RL.eS (.field0 fo140_1 rfl) ?_;refine RL.eS (.load1 sh3 rfl (hb_3.cell rfl)) ?_;refine RL.call rfl ok254 (c_refOf' _ _ (make_isR hok hpos) w24) rfl rfl ?_;rintro _ w25 ⟨rfl, s26⟩;have S := S.trans s26;have hb_2 := hb_2.sub s26;have hb_4 := hb_4.sub s26;have hb_C := hb_C.sub s26;refine RL.mvS rfl ?_;refine RL.eS (.extract rfl rfl) ?_;refine RL.eS (.extract rfl rfl) ?_;refine RL.asS rfl ?_;refine RL.asS rfl ?_;refine RL.nil (RC.back (RC.seq (RC.region rfl ?_)));refine RL.eS (.loadR ([.slice (some ⟨b_C, 0, none⟩) (A.nodes.map Node.cells).length cc, .slice fa (A.free.length - 1) (A.free.length - 1)]) sh26 rfl hb_2.row rfl) ?_;refine RL.mvS rfl ?_;refine RL.mvS rfl ?_;refine RL.stS sh26 rfl rfl rfl hb_4 (fun w27 z27 hb_4 a27 => ?_);have S := S.upd a27 ge_4;have hb_C := hb_C.upd a27 nb_C_b_4
            have hb_4 : Has w27 b_4 ([.slice (some ⟨b_C, 0, none⟩) (A.nodes.map Node.cells).length cc, .slice fa (A.free.length - 1) (A.free.length - 1)]) _ := hb_4.now (by kernel_rfl)
            refine RL.asS rfl ?_;refine RL.asS rfl ?_;refine RL.nil (RC.back ?_);refine RC.done (rs := [.cell 4 26, .tmp 5, .tmp 6]) (vs := [_, _, _]) rfl rfl ⟨⟨_, rfl, .inr ⟨[.slice (some ⟨b_C, 0, none⟩) (A.nodes.map Node.cells).length cc, .slice fa (A.free.length - 1) (A.free.length - 1)], sh26, hb_4.row, rfl⟩⟩, rfl, rfl, trivial⟩ ?_
            refine ⟨S, .inr (.inr ⟨hm, hpos, arV (some ⟨b_C, 0, none⟩) fa cc (A.free.length - 1) (makeA A x), ?_, _, _, _, _, rfl, ?_, ?_, fun N hN hI W hW => ⟨?_, ?_, ?_, ?_⟩⟩)⟩
            · show tup [Value.agg _, _, _] = _
              simp only [arV, makeA, List.length_set, List.length_take, List.length_map]
              rw [Nat.min_eq_left (by omega)]
              rfl
            · simpa [makeA] using k_C
            · simp only [makeA, List.length_take]; omega
            · show Sl W _ 16 ((makeA A x).nodes.map Node.cells)
              rw [makeA, List.map_set]
              exact Has.sl (hb_C.step hW (fun e => by have := hN _ e; omega)) (fun r hr => (List.mem_or_eq_of_mem_set hr).elim (fun hr => by obtain ⟨z, _, rfl⟩ := List.mem_map.1 hr; rfl) (fun e => e ▸ rfl))
            · show Sl W _ 1 ((makeA A x).free.map fun x => [i6 x])
              rw [makeA, List.map_take]
              exact ((hI.sub S) W hW).free.take _
            · intro z hz
              rcases List.mem_or_eq_of_mem_set hz with hz | rfl
              · exact hA.nok z hz
              · exact ⟨hx.kind, by unfold I64; show _ ≤ genAt A (lastAt A) ∧ genAt A (lastAt A) ≤ _; omega, hx.n, hx.v, hx.s, hx.kids, hx.pre, hx.suf⟩
            · exact fun z hz => hA.fok z (List.mem_of_mem_take hz)
theorem _root_.Go.XL.Has.eqc {w : World} {b : Nat} {xs ys : List Value} {e : TypeId} (h : Has w b xs e) (hx : xs = ys) : Has w b ys e := hx ▸ h
structure Rt where
  m : Int
  t : Int
  r : Int
  h : Int
  deriving DecidableEq
def Rt.cells (R : Rt) : List Value := [.int .u64 R.m, .int .u64 R.t, .int .u64 R.r, .int .u64 R.h]
def Rt.val (R : Rt) : Value := .agg R.cells.toArray
def Rt.ok (R : Rt) : Prop := U64 R.m ∧ U64 R.t ∧ U64 R.r ∧ U64 R.h
def rt0 : Rt := ⟨0, 0, 0, 0⟩
theorem rt0_ok : rt0.ok := by unfold Rt.ok U64 rt0; decide
structure RcP where
  no : Int
  rt : Rt
  aa : Option Addr
  an : Nat
  ac : Nat
  ra : Option Addr
  rn : Nat
  rc : Nat
def RcP.cells (r : RcP) : List Value := [.int .i64 r.no, .int .u64 r.rt.m, .int .u64 r.rt.t, .int .u64 r.rt.r, .int .u64 r.rt.h, .slice r.aa r.an r.ac, .slice r.ra r.rn r.rc]
def RcP.val (r : RcP) : Value := .agg r.cells.toArray
structure TbP where
  ra : Option Addr
  rn : Nat
  rc : Nat
  pa : Option Addr
  pn : Nat
  pc : Nat
  sa : Option Addr
  sn : Nat
  sc : Nat
def TbP.cells (t : TbP) : List Value := [.slice t.ra t.rn t.rc, .slice t.pa t.pn t.pc, .slice t.sa t.sn t.sc]
def tbp0 : TbP := ⟨none, 0, 0, none, 0, 0, none, 0, 0⟩
structure WdP where
  na : Option Addr
  nn : Nat
  nc : Nat
  fa : Option Addr
  fn : Nat
  fc : Nat
  tb : TbP
  aa : Option Addr
  an : Nat
  ac : Nat
  wa : Option Addr
  wn : Nat
  wc : Nat
def WdP.cells (x : WdP) : List Value := [.slice x.na x.nn x.nc, .slice x.fa x.fn x.fc, .slice x.tb.ra x.tb.rn x.tb.rc, .slice x.tb.pa x.tb.pn x.tb.pc, .slice x.tb.sa x.tb.sn x.tb.sc, .slice x.aa x.an x.ac, .slice x.wa x.wn x.wc]
def wdp0 : WdP := ⟨none, 0, 0, none, 0, 0, tbp0, none, 0, 0, none, 0, 0⟩
structure StP where
  wd : WdP
  time : Int
  ia : Option Addr
  inn : Nat
  ic : Nat
  la : Option Addr
  ln : Nat
  lc : Nat
  ca : Option Addr
  cn : Nat
  cc : Nat
def StP.cells (x : StP) : List Value := [.slice x.wd.na x.wd.nn x.wd.nc, .slice x.wd.fa x.wd.fn x.wd.fc, .slice x.wd.tb.ra x.wd.tb.rn x.wd.tb.rc, .slice x.wd.tb.pa x.wd.tb.pn x.wd.tb.pc, .slice x.wd.tb.sa x.wd.tb.sn x.wd.tb.sc, .slice x.wd.aa x.wd.an x.wd.ac, .slice x.wd.wa x.wd.wn x.wd.wc,
  .int .i64 x.time, .slice x.ia x.inn x.ic, .slice x.la x.ln x.lc, .slice x.ca x.cn x.cc]
def stp0 : StP := ⟨wdp0, 0, none, 0, 0, none, 0, 0, none, 0, 0⟩
def i0 : Value := .int .i64 0
def wk0 : List Value := [i0, i0, i0, i0, i0, i0, i0, i0, i0, .int .u64 0, .int .u64 0, .int .u64 0, .int .u64 0, .slice none 0 0, .slice none 0 0, .slice none 0 0, i0, .int .u64 0, .int .u64 0, .int .u64 0, .int .u64 0, .slice none 0 0, .slice none 0 0, .slice none 0 0]
theorem pigeon : ∀ (n : Nat) (l : List Int), l.Nodup → (∀ x ∈ l, 0 ≤ x ∧ x < n) → l.length ≤ n
  | 0, l, _, h => by
    cases l with
    | nil => simp
    | cons x l => have := h x (by simp); omega
  | n + 1, l, hn, h => by
    have h1 : ∀ x ∈ l.erase (n : Int), 0 ≤ x ∧ x < n := fun x hx => by
      have := (hn.mem_erase_iff).1 hx
      have := h x this.2
      omega
    have := pigeon n (l.erase (n : Int)) (hn.erase _) h1
    by_cases hm : (n : Int) ∈ l
    · rw [List.length_erase_of_mem hm] at this; omega
    · rw [List.erase_of_not_mem hm] at this; omega
theorem mem_newFree {n : Nat} {x : Int} : x ∈ newFree n n ↔ 0 ≤ x ∧ x < n := by
  unfold newFree
  rw [List.mem_map]
  constructor
  · rintro ⟨j, hj, rfl⟩
    have := List.mem_range.1 hj
    omega
  · intro h
    exact ⟨((n : Int) - 1 - x).toNat, List.mem_range.2 (by omega), by omega⟩
theorem newFree_nodup (n : Nat) : ∀ i, (newFree n i).Nodup
  | 0 => by simp [newFree]
  | i + 1 => by
    rw [newFree_succ, List.nodup_append]
    refine ⟨newFree_nodup n i, by simp, fun a ha b hb e => ?_⟩
    rw [List.mem_singleton] at hb
    subst hb; subst e
    obtain ⟨j, hj, h⟩ := List.mem_map.1 ha
    have := List.mem_range.1 hj
    omega
theorem newA_ok {n : Nat} (h : 1 ≤ n ∧ n ≤ 512) : AOk (newA n) := by
  have hl : (newA n).nodes.length = n := by simp [newA]
  have key : ∀ (i : Nat) x, (newA n).nodes[i]? = some x → x = bareN 0 ∧ i < n := fun i x hx => by
    have h1 := lt_of_get hx
    have h2 := List.mem_of_getElem? hx
    exact ⟨(List.mem_replicate.1 h2).2, by omega⟩
  refine ⟨by omega, by omega, by rw [hl]; simp [newA, newFree_len], ?_, newFree_nodup n n, ?_, ?_, ?_⟩
  · intro x hx; rw [hl]; exact mem_newFree.1 hx
  · intro x hx; rw [(List.mem_replicate.1 hx).2]; rfl
  · intro i x hx
    obtain ⟨rfl, hi⟩ := key i x hx
    exact ⟨fun _ => mem_newFree.2 (by omega), fun _ => rfl⟩
  · intro i x hx _
    obtain ⟨rfl, hi⟩ := key i x hx
    rfl
theorem take_last_mem {l : List Int} (hn : l.Nodup) (h : 0 < l.length) {p : Int} (hp : l[l.length - 1]? = some p) (x : Int) : x ∈ l.take (l.length - 1) ↔ x ∈ l ∧ x ≠ p := by
  have e : l = l.take (l.length - 1) ++ [p] := by
    have := List.take_append_drop (l.length - 1) l
    conv => lhs; rw [← this]
    congr 1
    rw [List.drop_eq_getElem_cons (by omega), getElem_of hp (by omega), List.drop_eq_nil_of_le (by omega)]
  have hn2 := hn
  rw [e, List.nodup_append] at hn2
  constructor
  · intro hx
    exact ⟨List.mem_of_mem_take hx, fun h => hn2.2.2 x hx p (by simp) h⟩
  · rintro ⟨hx, hne⟩
    rw [e] at hx
    exact (List.mem_append.1 hx).resolve_right (by simpa using hne)
theorem make_get {A : Ar} {x : Node} (hA : AOk A) (h : 0 < A.free.length) {i : Nat} {y : Node} (hy : (makeA A x).nodes[i]? = some y) : (i : Int) = lastAt A ∧ y = madeN A x ∨ ¬ (i : Int) = lastAt A ∧ A.nodes[i]? = some y := by
  have hin := lastAt_in hA h
  simp only [makeA, List.getElem?_set] at hy
  split at hy
  · split at hy
    · cases hy; exact .inl ⟨by omega, rfl⟩
    · cases hy
  · exact .inr ⟨by omega, hy⟩
theorem madeN_well {A : Ar} {x : Node} (hm : mayMake A x) (h : 0 < A.free.length) : well (madeN A x) = true := by
  have hg := genAt_rng hm.1 (lastAt_in hm.1 h)
  have hw := (well_iff (x0 x)).1 hm.2.2.2
  rw [well_iff]
  exact ⟨⟨hg.1, hg.2, hw.1.2.2⟩, hw.2⟩
theorem make_ok {A : Ar} {x : Node} (hm : mayMake A x) (h : 0 < A.free.length) : AOk (makeA A x) := by
  have hA := hm.1
  have hin := lastAt_in hA h
  have hl : (makeA A x).nodes.length = A.nodes.length := by simp [makeA]
  have hmem := take_last_mem hA.nodup h (lastAt_get h)
  have hk : ¬ (madeN A x).kind = 0 := by have := hm.2.1; show ¬ x.kind = 0; omega
  refine ⟨by rw [hl]; exact hA.one, by rw [hl]; exact hA.most, ?_, ?_, ?_, ?_, ?_, ?_⟩
  · rw [hl]; simp only [makeA, List.length_take]; have := hA.fit; omega
  · intro y hy; rw [hl]; exact hA.free y (List.mem_of_mem_take hy)
  · exact hA.nodup.sublist (List.take_sublist _ _)
  · intro y hy
    obtain ⟨i, hi⟩ := List.getElem?_of_mem hy
    rcases make_get hA h hi with ⟨_, rfl⟩ | ⟨_, hi⟩
    · exact madeN_well hm h
    · exact hA.well y (List.mem_of_getElem? hi)
  · intro i y hy
    show _ ↔ (i : Int) ∈ A.free.take _
    rw [hmem]
    rcases make_get hA h hy with ⟨e, rfl⟩ | ⟨ne, hi⟩
    · exact ⟨fun h => absurd h hk, fun h => absurd e h.2⟩
    · rw [hA.kind i y hi]; exact ⟨fun h => ⟨h, ne⟩, fun h => h.1⟩
  · intro i y hy hf
    have hf2 := (hmem _).1 hf
    rcases make_get hA h hy with ⟨e, rfl⟩ | ⟨ne, hi⟩
    · exact absurd e hf2.2
    · exact hA.bare i y hi hf2.1
theorem get_made {A : Ar} {x : Node} (hm : mayMake A x) (h : 0 < A.free.length) : getA (makeA A x) (makeR A) = some (madeN A x) := by
  have hi := make_isR hm.1 h
  have hin := lastAt_in hm.1 h
  have hp := placeR_of hi
  have hg := genR_of hi
  rw [show ofR (lastAt A) (genAt A (lastAt A)) = makeR A from rfl] at hp hg
  have hk : ¬ (madeN A x).kind = 0 := by have := hm.2.1; show ¬ x.kind = 0; omega
  rw [getA_at (by omega) (x := madeN A x) (by rw [hp]; simp only [makeA]; rw [List.getElem?_set_self (by omega)]), if_neg]
  rintro (e | e)
  · exact hk e
  · exact e (by rw [hg]; rfl)
end Go.Proofs.YtbjmllnddanniaaGreat
