/-
  What the law ModelReads leans on, part 1.
-/
import Derived.Calls
import Derived.Tactics
import Derived.Orders
import Derived.Deep.Quiet
import Derived.Below
import Derived.KernelRfl
import Derived.LoopN
import Derived.Laws.Bits64
import Derived.Laws.MakeOwn
import Derived.Laws.AppendOwn
import Derived.Laws.Append
import Derived.ArgAppend
import Derived.MapKept
import Derived.RangeFuncRecord
import Derived.RangeFuncIn
import Derived.TacticsIn
import Derived.OrdersIn
import Derived.LoopNIn
import Derived.RangeFuncCalls
import Derived.Test.YtfkanamdlndkfaaRows
import Derived.Lib.Overlaps
import Derived.Lib.AppendZerosOnto
import Derived.ChangeKeysEq
import Derived.OpenShut
import Derived.ChangeArms
import Derived.Deep.Slices
import Derived.ChangeSame
set_option linter.unusedVariables false
set_option linter.unusedSimpArgs false
namespace Go.XL
open Go Go.RowKit
def look : (List (Nat × Value)) → Nat → Option Value
  | [], _ => none
  | (k, v) :: r, n => match Nat.beq k n with | true => some v | false => look r n

structure Cx where
  size : Nat
  round : Option (Option Nat) := none
  marks : List Deferred := []
structure Knows (n : Cx) (F : (List (Nat × Value))) (a : Act) : Prop where
  size : a.tmps.size = n.size
  defers : a.defers = n.marks
  slot : ∀ t v, look F t = some v → a.tmps[t]? = some v

def ev (F : (List (Nat × Value))) : Operand → Option Value
  | .tmp t => look F t
  | .const v => some v
  | .global g => some (.pointer (some ⟨g, 0, none⟩))
  | .func f => some (.func (.func f) #[] #[])

def Agrees (F : (List (Nat × Value))) (ρ : Operand → Value) : Prop := ∀ x v, ev F x = some v → ρ x = v

theorem Knows.agrees {n F a} (h : Knows n F a) : Agrees F a.eval := by
  intro x v hx
  cases x with
  | tmp t => have := h.slot t v hx; simp [Act.eval, this]
  | const u => simp only [ev, Option.some.injEq] at hx; exact hx
  | global g => simp only [ev, Option.some.injEq] at hx; exact hx
  | func f => simp only [ev, Option.some.injEq] at hx; exact hx

theorem look_cons (k v F n) : look ((k, v) :: F) n = if k = n then some v else look F n := by
  simp only [look]
  by_cases h : k = n
  · subst h; simp
  · have : Nat.beq k n = false := by rw [Bool.eq_false_iff]; intro e; exact h (Nat.eq_of_beq_eq_true e)
    simp [this, h]

theorem Knows.put {n F a} (h : Knows n F a) (d : Nat) (v : Value) (hd : Nat.blt d n.size = true) : Knows n ((d, v) :: F) (a.put (some d) v) := by
  have hd' : d < n.size := by simpa [Nat.blt_eq] using hd
  refine ⟨by simp [Act.put, h.size], by simp [Act.put, h.defers], fun t u ht => ?_⟩
  rw [look_cons] at ht
  simp only [Act.put, Array.getElem?_setIfInBounds]
  by_cases e : d = t
  · subst e; simp at ht; subst ht; simp [h.size, hd']
  · simp [e] at ht; simp [e, h.slot t u ht]

theorem Knows.keep {n F G a} (h : Knows n F a) (hs : ∀ t v, look G t = some v → look F t = some v) : Knows n G a :=
  ⟨h.size, h.defers, fun t v ht => h.slot t v (hs t v ht)⟩

def upd (F : (List (Nat × Value))) (d : Option Nat) (v : Value) : (List (Nat × Value)) := match d with | some k => (k, v) :: F | none => F
def inB (d : Option Nat) (n : Cx) : Bool := match d with | some k => Nat.blt k n.size | none => true
theorem Knows.upd {n F a} (h : Knows n F a) (d : Option Nat) (v : Value) (hd : inB d n = true) : Knows n (upd F d v) (a.put d v) := by
  cases d with
  | none => exact h
  | some k => exact h.put k v hd

structure Sub (w w' : World) : Prop where
  os : w'.os = w.os
  tape : w'.tape = w.tape
  output : w'.output = w.output
  size : w.heap.size ≤ w'.heap.size
  block : ∀ k, k < w.heap.size → w'.heap[k]? = w.heap[k]?

theorem Sub.refl (w : World) : Sub w w := ⟨rfl, rfl, rfl, Nat.le_refl _, fun _ _ => rfl⟩
theorem Sub.trans {a b c : World} (h : Sub a b) (k : Sub b c) : Sub a c :=
  ⟨k.os.trans h.os, k.tape.trans h.tape, k.output.trans h.output, Nat.le_trans h.size k.size,
   fun i hi => (k.block i (Nat.lt_of_lt_of_le hi h.size)).trans (h.block i hi)⟩
theorem Sub.below {a b : World} (h : Sub a b) : Below a.heap.size a b := ⟨h.os, h.tape, h.output, h.size, h.block⟩

structure Agr (N : Nat → Prop) (w w' : World) : Prop where
  os : w'.os = w.os
  tape : w'.tape = w.tape
  output : w'.output = w.output
  size : w.heap.size ≤ w'.heap.size
  block : ∀ k, k < w.heap.size → ¬ N k → w'.heap[k]? = w.heap[k]?

theorem Agr.refl (N : Nat → Prop) (w : World) : Agr N w w := ⟨rfl, rfl, rfl, Nat.le_refl _, fun _ _ _ => rfl⟩
theorem Agr.trans {N : Nat → Prop} {a b c : World} (h : Agr N a b) (k : Agr N b c) : Agr N a c :=
  ⟨k.os.trans h.os, k.tape.trans h.tape, k.output.trans h.output, Nat.le_trans h.size k.size,
   fun i hi hn => (k.block i (Nat.lt_of_lt_of_le hi h.size) hn).trans (h.block i hi hn)⟩
theorem Sub.agr {N : Nat → Prop} {w w' : World} (h : Sub w w') : Agr N w w' := ⟨h.os, h.tape, h.output, h.size, fun k hk _ => h.block k hk⟩
theorem Agr.mono {N N' : Nat → Prop} {w w' : World} (h : Agr N w w') (hn : ∀ k, k < w.heap.size → N k → N' k) : Agr N' w w' :=
  ⟨h.os, h.tape, h.output, h.size, fun k hk hk' => h.block k hk (fun e => hk' (hn k hk e))⟩

def Has (w : World) (b : Nat) (cs : List Value) (e : TypeId) : Prop := w.heap[b]? = some (.cells cs.toArray e (0, 0))

theorem Has.lt {w b cs e} (h : Has w b cs e) : b < w.heap.size := by
  unfold Has at h
  rcases Nat.lt_or_ge b w.heap.size with g | g
  · exact g
  · rw [Array.getElem?_eq_none g] at h; cases h
theorem Has.step {N : Nat → Prop} {w w' b cs e} (h : Has w b cs e) (k : Agr N w w') (hn : ¬ N b) : Has w' b cs e := (k.block b h.lt hn).trans h
theorem Has.sub {w w' b cs e} (h : Has w b cs e) (k : Sub w w') : Has w' b cs e := (k.block b h.lt).trans h
theorem Has.cell {w b cs e o v} (h : Has w b cs e) (hc : cs[o]? = some v) : w.cell? ⟨b, o, none⟩ = some v := by
  unfold Has at h
  simp [World.cell?, h, hc]
theorem Has.free {w b cs e o s} (h : Has w b cs e) : w.frozen? ⟨b, o, s⟩ = false := by
  unfold Has at h
  simp [World.frozen?, h]

def Row (w : World) (a : Addr) (cs : List Value) : Prop := ∀ i v, cs[i]? = some v → w.cell? (a.add i) = some v

theorem Has.row {w b cs e} (h : Has w b cs e) : Row w ⟨b, 0, none⟩ cs := by
  intro i v hv
  have : (⟨b, 0, none⟩ : Addr).add i = ⟨b, i, none⟩ := by unfold Addr.add; split <;> simp_all
  rw [this]; exact h.cell hv

def wnew (w : World) (o : Obj) : World := { w with heap := w.heap.push o }
theorem wnew_sub (w : World) (o : Obj) : Sub w (wnew w o) :=
  ⟨rfl, rfl, rfl, by simp [wnew], fun k hk => by simp only [wnew]; rw [Array.getElem?_push, if_neg (by omega)]⟩
theorem wnew_has (w : World) (cs : Array Value) (e : TypeId) : Has (wnew w (.cells cs e)) w.heap.size cs.toList e := by
  show (w.heap.push _)[w.heap.size]? = _
  rw [Array.getElem?_push_size]
theorem heap_alloc_old' (w : World) (o : Obj) {r : Nat} (h : r < w.heap.size) : (w.alloc o).heap[r]? = w.heap[r]? := by
  show (w.heap.push o)[r]? = _
  rw [Array.getElem?_push]
  split
  · omega
  · rfl
theorem wnew_size (w : World) (o : Obj) : (wnew w o).heap.size = w.heap.size + 1 := by simp [wnew]


structure Post where
  nrm : Act → World → Prop
  exits : List (Nat × (Act → World → Prop))
  ret : Act → World → Prop

def lookX : List (Nat × (Act → World → Prop)) → Nat → Option (Act → World → Prop)
  | [], _ => none
  | (k, v) :: r, n => match Nat.beq k n with | true => some v | false => lookX r n

def Post.q (p : Post) : Exit → Act → World → Prop
  | .normal => p.nrm
  | .exit i => fun a w => match lookX p.exits i with | some K => K a w | none => False
  | .ret => p.ret
  | _ => fun _ _ => False

def Post.to (p : Post) (K : Act → World → Prop) : Post := { p with nrm := K }
def Post.block (p : Post) (id : Nat) : Post := { p with exits := (id, p.nrm) :: p.exits }

theorem Post.q_to (p : Post) (K : Act → World → Prop) : Exit.then K p.q = (p.to K).q := by
  funext e a w; cases e <;> rfl

theorem lookX_cons (k v F n) : lookX ((k, v) :: F) n = if k = n then some v else lookX F n := by
  simp only [lookX]
  by_cases h : k = n
  · subst h; simp
  · have : Nat.beq k n = false := by rw [Bool.eq_false_iff]; intro e; exact h (Nat.eq_of_beq_eq_true e)
    simp [this, h]

abbrev rfe (l : Option Nat) : Fence := { Fence.wide with round := l }
theorem callsIn_rfe {l : Option Nat} {k : Nat} {P : Program} {f : FuncId} {args : Array Value} {w : World} {R : Ending → World → Prop} (h : Calls P f args w R) : CallsIn (rfe l) k P f args w R := callsIn_wide.2 h
def cwp (n : Cx) (P : Program) (c : Code) (Q : Exit → Act → World → Prop) (a : Act) (w : World) : Prop := match n.round with
  | none => c.wp P Q a w
  | some l => c.wpIn (rfe l) 0 P Q a w
def lwp (n : Cx) (P : Program) (ops : Array Oper) (Q : Exit → Act → World → Prop) (l : List Oper) (a : Act) (w : World) : Prop := match n.round with
  | none => wpList P ops Q l a w
  | some r => wpListIn (rfe r) 0 P ops Q l a w
theorem cwp_none {n : Cx} (h : n.round = none) {P c Q a w} : cwp n P c Q a w = c.wp P Q a w := by unfold cwp; rw [h]
theorem cwp_some {n : Cx} {l : Option Nat} (h : n.round = some l) {P c Q a w} : cwp n P c Q a w = c.wpIn (rfe l) 0 P Q a w := by unfold cwp; rw [h]
theorem lwp_none {n : Cx} (h : n.round = none) {P ops Q l a w} : lwp n P ops Q l a w = wpList P ops Q l a w := by unfold lwp; rw [h]
theorem lwp_some {n : Cx} {r : Option Nat} (h : n.round = some r) {P ops Q l a w} : lwp n P ops Q l a w = wpListIn (rfe r) 0 P ops Q l a w := by unfold lwp; rw [h]
theorem cwp_mono {n : Cx} {P : Program} {c : Code} {Q Q' : Exit → Act → World → Prop} {a : Act} {w : World} (h : cwp n P c Q a w) (hq : ∀ e a w, Q e a w → Q' e a w) : cwp n P c Q' a w := by
  unfold cwp at *
  cases hr : n.round with
  | none => rw [hr] at h; exact wp_mono h hq
  | some l => rw [hr] at h; exact wpIn_mono h hq
def RC (P : Program) (n : Cx) (c : Code) (F : (List (Nat × Value))) (w : World) (p : Post) : Prop := ∀ a, Knows n F a → cwp n P c p.q a w
def RL (P : Program) (n : Cx) (ops : Array Oper) (l : List Oper) (F : (List (Nat × Value))) (w : World) (p : Post) : Prop := ∀ a, Knows n F a → lwp n P ops p.q l a w

section
variable {P : Program} {n : Cx} {F : (List (Nat × Value))} {w : World} {p : Post}
theorem RC.both {c c' : Code} {Q : Exit → Act → World → Prop} {a : Act} (h0 : n.round = none → c.wp P Q a w) (h1 : ∀ l, n.round = some l → c.wpIn (rfe l) 0 P Q a w) : cwp n P c Q a w := by
  cases hr : n.round with
  | none => rw [cwp_none hr]; exact h0 hr
  | some l => rw [cwp_some hr]; exact h1 l hr
theorem RC.skip (h : ∀ a, Knows n F a → p.nrm a w) : RC P n .skip F w p := fun a k => RC.both (c' := .skip) (fun _ => wp_skip (h a k)) (fun _ _ => wpIn_skip (h a k))
theorem RC.ret (h : ∀ a, Knows n F a → p.ret a w) : RC P n .ret F w p := fun a k => RC.both (c' := .skip) (fun _ => wp_ret (h a k)) (fun _ _ => wpIn_ret (h a k))
theorem RC.exit {id K} (hl : lookX p.exits id = some K) (h : ∀ a, Knows n F a → K a w) : RC P n (.exit id) F w p := fun a k => by
  have hq : p.q (.exit id) a w := by simp only [Post.q, hl]; exact h a k
  exact RC.both (c' := .skip) (fun _ => wp_exit hq) (fun _ _ => wpIn_exit hq)
theorem RC.seq {x y} (h : RC P n x F w (p.to fun a w => cwp n P y p.q a w)) : RC P n (.seq x y) F w p := fun a k => by
  have h := h a k
  rw [← Post.q_to] at h
  refine RC.both (c' := .skip) (fun hr => wp_seq ?_) (fun l hr => wpIn_seq ?_)
  · rw [cwp_none hr] at h
    exact wp_mono h fun e a w q => by
      cases e <;> first | exact q | (simp only [Exit.then] at q ⊢; rwa [cwp_none hr] at q)
  · rw [cwp_some hr] at h
    exact wpIn_mono h fun e a w q => by
      cases e <;> first | exact q | (simp only [Exit.then] at q ⊢; rwa [cwp_some hr] at q)
theorem RC.block {id c} (h : RC P n c F w (p.block id)) : RC P n (.block id c) F w p := fun a k => by
  have key : ∀ e a w, (p.block id).q e a w → Exit.inBlock id p.q e a w := by
    intro e a w hq
    cases e with
    | exit i =>
      simp only [Exit.inBlock]
      simp only [Post.q, Post.block, lookX_cons] at hq
      by_cases e : i = id
      · subst e; simpa [Post.q] using hq
      · rw [if_neg e]; rw [if_neg (fun h => e h.symm)] at hq; exact hq
    | _ => exact hq
  have h := h a k
  refine RC.both (c' := .skip) (fun hr => wp_block ?_) (fun l hr => wpIn_block ?_)
  · rw [cwp_none hr] at h; exact wp_mono h key
  · rw [cwp_some hr] at h; exact wpIn_mono h key
theorem RC.cond {c x y b} (hc : ev F c = some (.bool b)) (ht : b = true → RC P n x F w p) (hf : b = false → RC P n y F w p) : RC P n (.cond c x y) F w p :=
  fun a k => RC.both (c' := .skip)
    (fun hr => wp_cond_split (k.agrees _ _ hc) (fun e => by have := ht e a k; rwa [cwp_none hr] at this) (fun e => by have := hf e a k; rwa [cwp_none hr] at this))
    (fun l hr => wpIn_cond_split (k.agrees _ _ hc) (fun e => by have := ht e a k; rwa [cwp_some hr] at this) (fun e => by have := hf e a k; rwa [cwp_some hr] at this))
theorem RC.cond_dec {c x y} {q : Prop} [Decidable q] (hc : ev F c = some (.bool (decide q))) (ht : q → RC P n x F w p) (hf : ¬ q → RC P n y F w p) : RC P n (.cond c x y) F w p :=
  RC.cond hc (fun e => ht (of_decide_eq_true e)) (fun e => hf (of_decide_eq_false e))
theorem RC.region {id ops l} (hl : ops = List.toArray l) (h : RL P n ops l F w p) : RC P n (.region id ops false) F w p :=
  fun a k => by
    subst hl
    have h := h a k
    refine RC.both (c' := .skip) (fun hr => wp_region_list ?_) (fun r hr => wpIn_region_list ?_)
    · rw [lwp_none hr] at h; simpa using h
    · rw [lwp_some hr] at h; simpa using h
theorem RL.nil {ops} (h : ∀ a, Knows n F a → p.nrm a w) : RL P n ops [] F w p := fun a k => by
  cases hr : n.round with
  | none => rw [lwp_none hr]; exact wpList_nil (h a k)
  | some r => rw [lwp_some hr]; exact wpListIn_nil (h a k)
theorem RC.back {y} {q : Post} (h : RC P n y F w q) : ∀ a, Knows n F a → (fun a w => cwp n P y q.q a w) a w := h

theorem RC.loop {α : Type} {c} (G : α → (List (Nat × Value))) (J : α → World → Prop) (μ : α → Nat) (x : α) (hF : ∀ t v, look (G x) t = some v → look F t = some v) (hJ : J x w)
    (round : ∀ x w, J x w → RC P n c (G x) w (p.to fun a' w' => ∃ x', J x' w' ∧ μ x' < μ x ∧ Knows n (G x') a')) (hR : n.round = none := by rfl) : RC P n (.loop c) F w p := by
  intro a k
  rw [cwp_none hR]
  intro b kk cs
  have key : ∀ m x w a, μ x = m → J x w → Knows n (G x) a →
      ∃ e a' w', p.q e a' w' ∧ Arrives P (lone (b.at a (.code c :: .inLoop c :: kk)) cs w) b kk cs e a' w' := by
    intro m
    induction m using Nat.strongRecOn with
    | _ m ih =>
      intro x w a hm hJ hk
      have hround := round x w hJ a hk
      rw [cwp_none hR] at hround
      obtain ⟨e, a₁, w₁, hq, harr⟩ := hround b (.inLoop c :: kk) cs
      cases e with
      | normal =>
        obtain ⟨x', hJ', hlt, hk'⟩ := hq
        obtain ⟨e₂, a₂, w₂, hq₂, harr₂⟩ := ih (μ x') (hm ▸ hlt) x' w₁ a₁ rfl hJ' hk'
        exact ⟨e₂, a₂, w₂, hq₂, .of_steps (Steps.trans harr (.one step_inLoop)) harr₂⟩
      | exit id => exact ⟨.exit id, a₁, w₁, hq, .pass (x := .inLoop c) rfl (fun _ _ => .inl (by simp)) harr⟩
      | goto l => exact ⟨.goto l, a₁, w₁, hq, .pass (x := .inLoop c) rfl (fun _ _ => .inl (by simp)) harr⟩
      | ret => exact ⟨.ret, a₁, w₁, hq, .pass (x := .inLoop c) rfl (fun _ _ => .inl (by simp)) harr⟩
      | panic ch => exact ⟨.panic ch, a₁, w₁, hq, .pass (x := .inLoop c) rfl (fun _ _ => .inl (by simp)) harr⟩
      | outgrown => exact ⟨.outgrown, a₁, w₁, hq, .pass (x := .inLoop c) rfl (fun _ _ => .inl (by simp)) harr⟩
  obtain ⟨e, a', w', hq, harr⟩ := key _ x w a rfl hJ (k.keep hF)
  exact ⟨e, a', w', hq, .of_steps (.one step_loop) harr⟩
end
def gsat (ops : Array Oper) (F : (List (Nat × Value))) : Option (Nat × Bool) → Option Bool
  | none => some true
  | some (j, want) => match (ops[j]?).bind (·.dst) with
    | none => some false
    | some d => match look F d with
      | some (.bool b) => some (b == want)
      | some _ => some false
      | none => none

theorem wanted_of {ops F n a} (k : Knows n F a) {o : Oper} {b} (h : gsat ops F o.guard = some b) : Region.wanted o (yielded ops a.tmps) = b := by
  unfold Region.wanted
  cases hg : o.guard with
  | none => rw [hg] at h; simpa [gsat] using h
  | some jw =>
    obtain ⟨j, want⟩ := jw
    rw [hg] at h
    simp only [gsat] at h
    cases hd : (ops[j]?).bind (·.dst) with
    | none => simp only [hd] at h; cases h; simp [yielded, hd]
    | some d =>
      simp only [hd] at h
      cases hl : look F d with
      | none => simp [hl] at h
      | some v =>
        have hs := k.slot d v hl
        cases v <;> simp_all [yielded]

def EvOp (P : Program) (F : (List (Nat × Value))) (o : Op) (w : World) (v : Value) : Prop :=
  ∀ (d : Option Tmp) (t : TypeId) (pos : String) (af : Array Edge) (g : Option (Nat × Bool)) (ρ : Operand → Value), Agrees F ρ → ∀ w', Sub w w' → (execOp ρ ⟨d, o, t, pos, af, g⟩).run P w' = .ok (.value v) w'

section
variable {P : Program} {n : Cx} {F : (List (Nat × Value))} {w : World} {p : Post} {ops : Array Oper} {rest : List Oper} {d : Option Tmp} {o : Op} {t : TypeId} {pos : String} {af : Array Edge} {g : Option (Nat × Bool)}
theorem not_defer {ρ : Operand → Value} {o : Oper} {x : Next} {w' : World} (h : (execOp ρ o).run P w = .ok x w') (hx : ∀ d, x ≠ .defer d) : ∀ c, o.op ≠ .defer c := by
  intro c e
  unfold execOp at h
  rw [e] at h
  simp only [] at h
  rw [Sem.run_bind] at h
  cases hr : (resolve ρ c o.type).run P w with
  | ok d w'' => rw [hr] at h; simp only [Result.andThen, pure, Sem.run] at h; cases h; exact hx _ rfl
  | halt y w'' => rw [hr] at h; cases h
theorem RL.off (hg : gsat ops F g = some false) (hd : inB d n = true) (h : RL P n ops rest (upd F d undef) w p) : RL P n ops (⟨d, o, t, pos, af, g⟩ :: rest) F w p := by
  intro a k
  have h := h _ (k.upd d undef hd)
  cases hr : n.round with
  | none =>
    rw [lwp_none hr] at h ⊢
    simp only [wpList]
    rw [wanted_of k hg]
    exact h
  | some r =>
    rw [lwp_some hr] at h ⊢
    simp only [wpListIn]
    rw [wanted_of k hg]
    exact ⟨fun _ _ => trivial, h⟩

theorem RL.on {v w'} (hg : gsat ops F g = some true) (hd : inB d n = true) (hr : ∀ ρ, Agrees F ρ → (execOp ρ ⟨d, o, t, pos, af, g⟩).run P w = .ok (.value v) w') (h : RL P n ops rest (upd F d v) w' p) : RL P n ops (⟨d, o, t, pos, af, g⟩ :: rest) F w p := by
  intro a k
  have h := h _ (k.upd d v hd)
  have he := hr _ k.agrees
  cases hq : n.round with
  | none =>
    rw [lwp_none hq] at h ⊢
    simp only [wpList]
    rw [wanted_of k hg]
    refine .inl ?_
    simp only [Oper.wp, he, Oper.upon]
    exact h
  | some r =>
    rw [lwp_some hq] at h ⊢
    simp only [wpListIn]
    rw [wanted_of k hg, if_pos rfl]
    refine ⟨fun _ _ => trivial, ?_⟩
    rw [Oper.semAt_eq _ _ _ (not_defer he (fun _ e => by cases e)), he]
    exact h

theorem RL.on_skip {w'} (hg : gsat ops F g = some true) (hr : ∀ ρ, Agrees F ρ → (execOp ρ ⟨none, o, t, pos, af, g⟩).run P w = .ok .skip w') (h : RL P n ops rest F w' p) : RL P n ops (⟨none, o, t, pos, af, g⟩ :: rest) F w p := by
  intro a k
  have h := h _ k
  have he := hr _ k.agrees
  cases hq : n.round with
  | none =>
    rw [lwp_none hq] at h ⊢
    simp only [wpList]
    rw [wanted_of k hg]
    refine .inl ?_
    simp only [Oper.wp, he, Oper.upon]
    exact h
  | some r =>
    rw [lwp_some hq] at h ⊢
    simp only [wpListIn]
    rw [wanted_of k hg, if_pos rfl]
    refine ⟨fun _ _ => trivial, ?_⟩
    rw [Oper.semAt_eq _ _ _ (not_defer he (fun _ e => by cases e)), he]
    exact h

theorem RL.ev {v} (he : EvOp P F o w v) (hg : gsat ops F g = some true) (hd : inB d n = true) (h : RL P n ops rest (upd F d v) w p) : RL P n ops (⟨d, o, t, pos, af, g⟩ :: rest) F w p :=
  RL.on hg hd (fun ρ hρ => he d t pos af g ρ hρ w (Sub.refl _)) h

theorem RL.split {q : Prop} [Decidable q] {l} (s : Nat) (hs : look F s = some (.bool (decide q))) (hy : q → RL P n ops l ((s, .bool true) :: F) w p) (hn : ¬ q → RL P n ops l ((s, .bool false) :: F) w p) : RL P n ops l F w p := by
  intro a k
  by_cases hq : q
  · refine hy hq a ⟨k.size, k.defers, fun t v ht => ?_⟩
    rw [look_cons] at ht
    by_cases e : s = t
    · subst e; simp at ht; subst ht; simpa [hq] using k.slot _ _ hs
    · rw [if_neg e] at ht; exact k.slot _ _ ht
  · refine hn hq a ⟨k.size, k.defers, fun t v ht => ?_⟩
    rw [look_cons] at ht
    by_cases e : s = t
    · subst e; simp at ht; subst ht; simpa [hq] using k.slot _ _ hs
    · rw [if_neg e] at ht; exact k.slot _ _ ht
theorem RL.splitB {b : Bool} {l} (s : Nat) (hs : look F s = some (.bool b)) (hy : b = true → RL P n ops l ((s, .bool true) :: F) w p) (hn : b = false → RL P n ops l ((s, .bool false) :: F) w p) : RL P n ops l F w p :=
  RL.split (q := b = true) s (by rw [hs]; simp) hy (fun h => hn (by simpa using h))

theorem EvOp.move {x v} (hx : XL.ev F x = some v) : EvOp P F (.move x) w v := fun _ _ _ _ _ ρ hρ w' _ => by
  simp only [execOp, hρ x v hx]; rfl
theorem EvOp.assign {x v} (hx : XL.ev F x = some v) : EvOp P F (.assign x) w v := fun _ _ _ _ _ ρ hρ w' _ => by
  simp only [execOp, hρ x v hx]; rfl
theorem EvOp.pick_t {c x y v} (hc : XL.ev F c = some (.bool true)) (hx : XL.ev F x = some v) : EvOp P F (.pick c x y) w v := fun _ _ _ _ _ ρ hρ w' _ => by
  simp only [execOp, hρ c _ hc, hρ x v hx, asBool]; rfl
theorem EvOp.pick_f {c x y v} (hc : XL.ev F c = some (.bool false)) (hy : XL.ev F y = some v) : EvOp P F (.pick c x y) w v := fun _ _ _ _ _ ρ hρ w' _ => by
  simp only [execOp, hρ c _ hc, hρ y v hy, asBool]; rfl

def binI (op : BinOp) (k : IntKind) (a b : Int) : Option Value :=
  match op with
  | .add => some (.int k (k.wrap (a + b)))
  | .sub => some (.int k (k.wrap (a - b)))
  | .mul => some (.int k (k.wrap (a * b)))
  | .eql => some (.bool (decide (a = b)))
  | .neq => some (.bool (decide (¬ a = b)))
  | .lss => some (.bool (decide (a < b)))
  | .leq => some (.bool (decide (a ≤ b)))
  | .gtr => some (.bool (decide (b < a)))
  | .geq => some (.bool (decide (b ≤ a)))
  | .and => some (.int k (k.wrap (BitVec.ofInt k.bits a &&& BitVec.ofInt k.bits b).toNat))
  | .or => some (.int k (k.wrap (BitVec.ofInt k.bits a ||| BitVec.ofInt k.bits b).toNat))
  | .xor => some (.int k (k.wrap (BitVec.ofInt k.bits a ^^^ BitVec.ofInt k.bits b).toNat))
  | _ => none

theorem EvOp.bin {op k x y a b v ty tx} (hx : XL.ev F x = some (.int k a)) (hy : XL.ev F y = some (.int k b)) (hv : binI op k a b = some v) : EvOp P F (.binOp op tx x y ty) w v := fun _ _ _ _ _ ρ hρ w' _ => by
  simp only [execOp, hρ x _ hx, hρ y _ hy]
  cases op <;> simp only [binI, Option.some.injEq, reduceCtorEq] at hv <;> subst hv <;> simp [eqGuard, binOp, Op.intArith, Op.intBits, Op.intCmp, bind, Sem.bind, pure, bne] <;> (rw [Bool.eq_iff_iff]; simp)
end
def isAggD : TypeDesc → Bool | .struct _ => true | .array _ _ => true | _ => false
def shapeOf (P : Program) (t : TypeId) : Option (Bool × Nat) :=
  match P.underlying t, P.info? t with | some d, some i => some (isAggD d, i.size) | _, _ => none
def zeroOf (P : Program) (t : TypeId) : Option Value := (P.info? t).bind (·.zero)
def fieldOff (P : Program) (s : TypeId) (f : Nat) : Option Nat :=
  match P.underlying s with
  | some (.struct fs) => match fs[f]? with
    | some fd => (match P.info? fd.type with | some i => (match i.size with | 0 => none | _ + 1 => some fd.offset) | none => none)
    | none => none
  | _ => none
def sliceOf (P : Program) (t : TypeId) : Option (TypeId × Nat × Nat) :=
  match P.underlying t with
  | some (.slice e) => match P.info? e with | some i => some (e, i.size, i.bytes) | none => none
  | _ => none
def arrOf (P : Program) (t : TypeId) : Option (Nat × TypeId × Nat) :=
  match P.underlying t with
  | some (.array n e) => match P.info? e with | some i => some (n, e, i.size) | none => none
  | _ => none
def intOf? (P : Program) (t : TypeId) : Option IntKind := match P.underlying t with | some (.int k) => some k | _ => none
def calleeOK (P : Program) (f : FuncId) : Bool := match P.funcs[f]? with | some fn => fn.name != "runtime.NumGoroutine" && fn.body.isSome | none => false

section
variable {P : Program}
theorem shapeOf_spec {t b s} (h : shapeOf P t = some (b, s)) : ∃ d i, P.underlying t = some d ∧ P.info? t = some i ∧ isAggD d = b ∧ i.size = s := by
  unfold shapeOf at h
  split at h
  · rename_i d i hd hi; simp at h; exact ⟨d, i, hd, hi, h.1, h.2⟩
  · cases h
theorem sliceOf_spec {t e s b} (h : sliceOf P t = some (e, s, b)) : P.underlying t = some (.slice e) ∧ ∃ i, P.info? e = some i ∧ i.size = s ∧ i.bytes = b := by
  unfold sliceOf at h
  split at h
  · rename_i e' hd
    split at h
    · rename_i i hi; simp at h; obtain ⟨rfl, rfl, rfl⟩ := h; exact ⟨hd, i, hi, rfl, rfl⟩
    · cases h
  · cases h
theorem arrOf_spec {t n e s} (h : arrOf P t = some (n, e, s)) : P.underlying t = some (.array n e) ∧ ∃ i, P.info? e = some i ∧ i.size = s := by
  unfold arrOf at h
  split at h
  · rename_i m e' hd
    split at h
    · rename_i i hi; simp at h; obtain ⟨rfl, rfl, rfl⟩ := h; exact ⟨hd, i, hi, rfl⟩
    · cases h
  · cases h
theorem intOf?_spec {t k} (h : intOf? P t = some k) : P.underlying t = some (.int k) := by
  unfold intOf? at h
  split at h
  · rename_i k' hd; simp at h; subst h; exact hd
  · cases h
theorem fieldOff_spec {s f o} (h : fieldOff P s f = some o) : ∃ fs fd i, P.underlying s = some (.struct fs) ∧ fs[f]? = some fd ∧ fd.offset = o ∧ P.info? fd.type = some i ∧ i.size ≠ 0 := by
  unfold fieldOff at h
  split at h
  · rename_i fs hs
    split at h
    · rename_i fd hf
      split at h
      · rename_i i hi
        split at h
        · cases h
        · rename_i m hz; simp at h; exact ⟨fs, fd, i, hs, hf, h, hi, by omega⟩
      · cases h
    · cases h
  · cases h
theorem zeroOf_spec {t z} (h : zeroOf P t = some z) : ∃ i, P.info? t = some i ∧ i.zero = some z := by
  unfold zeroOf at h
  cases hi : P.info? t with
  | none => simp [hi] at h
  | some i => exact ⟨i, rfl, by simpa [hi] using h⟩

theorem run_underlying {t d w} {α : Type} (h : P.underlying t = some d) (k : TypeDesc → Sem α) : (underlying t >>= k).run P w = (k d).run P w := by
  simp [underlying, program, bind, Sem.bind, Sem.run, h, pure]
theorem run_sizeOf {t i w} {α : Type} (h : P.info? t = some i) (k : Nat → Sem α) : (sizeOf t >>= k).run P w = (k i.size).run P w := by
  simp [sizeOf, typeInfo, program, bind, Sem.bind, Sem.run, h, pure]
theorem run_isAgg {t d w} {α : Type} (h : P.underlying t = some d) (k : Bool → Sem α) : (isAgg t >>= k).run P w = (k (isAggD d)).run P w := by
  simp only [isAgg, underlying, program, bind, Sem.bind, Sem.run, pure]
  rw [h]
  cases d <;> simp [isAggD, Sem.bind]
theorem run_zeroValue {t z w} {α : Type} (h : zeroOf P t = some z) (k : Value → Sem α) : (zeroValue t >>= k).run P w = (k z).run P w := by
  obtain ⟨i, hi, hz⟩ := zeroOf_spec h
  simp [zeroValue, typeInfo, program, bind, Sem.bind, Sem.run, hi, hz, pure]
theorem run_bind {α β : Type} (s : Sem α) (k : α → Sem β) (w : World) : (s >>= k).run P w = (match s.run P w with | .ok a w' => (k a).run P w' | .halt h w' => .halt h w') := by
  show (Sem.bind s k).run P w = _
  induction s generalizing w with
  | pure a => rfl
  | halt h => rfl
  | store m a v k' ih =>
    simp only [Sem.bind]
    cases v <;> simp only [Sem.run] <;> (repeat' split) <;> simp_all
  | load m a k' ih => simp only [Sem.bind, Sem.run]; (repeat' split) <;> simp_all
  | new o k' ih => simp only [Sem.bind, Sem.run]; exact ih _ _
  | shape r k' ih => simp only [Sem.bind, Sem.run]; exact ih _ _
  | freeze a n k' ih => simp only [Sem.bind, Sem.run]; exact ih _
  | frozen a k' ih => simp only [Sem.bind, Sem.run]; exact ih _ _
  | getObj r k' ih => simp only [Sem.bind, Sem.run]; (repeat' split) <;> simp_all
  | setObj r o k' ih => simp only [Sem.bind, Sem.run]; (repeat' split) <;> simp_all
  | choose q k' ih => simp only [Sem.bind, Sem.run]; split <;> exact ih _ _
  | sys c k' ih => simp only [Sem.bind, Sem.run]; exact ih _ _
  | program k' ih => simp only [Sem.bind, Sem.run]; exact ih _ _
  | mark m k' ih => simp only [Sem.bind, Sem.run]; exact ih _
end
def plainV : Value → Bool | .agg _ => false | .tuple _ => false | _ => true

theorem add_lit (b o i : Nat) : (⟨b, o, none⟩ : Addr).add i = ⟨b, o + i, none⟩ := by
  unfold Addr.add; split <;> simp_all

theorem Row.sub {w w' a cs} (h : Row w a cs) (k : Sub w w') : Row w' a cs := by
  intro i v hv
  have hc := h i v hv
  have hlt : (a.add i).block < w.heap.size := by
    rcases Nat.lt_or_ge (a.add i).block w.heap.size with g | g
    · exact g
    · simp [World.cell?, Array.getElem?_eq_none g] at hc
  have := k.block _ hlt
  simpa [World.cell?, this] using hc

theorem cell_sub {w w' : World} {a : Addr} {v} (hc : w.cell? a = some v) (k : Sub w w') : w'.cell? a = some v := by
  have hlt : a.block < w.heap.size := by
    rcases Nat.lt_or_ge a.block w.heap.size with g | g
    · exact g
    · simp [World.cell?, Array.getElem?_eq_none g] at hc
  have := k.block _ hlt
  simpa [World.cell?, this] using hc

theorem cell_agr {N : Nat → Prop} {w w' : World} {a : Addr} {v} (hc : w.cell? a = some v) (hn : ¬ N a.block) (k : Agr N w w') : w'.cell? a = some v := by
  have hlt : a.block < w.heap.size := by
    rcases Nat.lt_or_ge a.block w.heap.size with g | g
    · exact g
    · simp [World.cell?, Array.getElem?_eq_none g] at hc
  have := k.block _ hlt hn
  simpa [World.cell?, this] using hc

section
variable {P : Program}
theorem run_loadCellsFrom {w : World} {a : Addr} (cs : List Value) : ∀ (i : Nat) (acc : Array Value), (∀ j v, cs[j]? = some v → w.cell? (a.add (i + j)) = some v) →
    (loadCellsFrom a i cs.length acc).run P w = .ok (acc ++ cs.toArray) w := by
  induction cs with
  | nil => intro i acc _; simp [loadCellsFrom, pure]
  | cons v cs ih =>
    intro i acc h
    have h0 := h 0 v rfl
    simp only [List.length_cons, loadCellsFrom, load, bind, Sem.bind, Sem.run]
    rw [Nat.add_zero] at h0
    rw [h0]
    simp only
    rw [ih (i + 1) _ (fun j u hu => by have := h (j + 1) u (by simpa using hu); rwa [show i + 1 + j = i + (j + 1) by omega])]
    simp

theorem run_loadCells {w : World} {a : Addr} {cs : List Value} (h : Row w a cs) : (loadCells a cs.length).run P w = .ok cs.toArray w := by
  rw [loadCells, run_loadCellsFrom cs 0 #[] (fun j v hv => by rw [Nat.zero_add]; exact h j v hv)]
  simp

def splice : List Value → Nat → List Value → List Value
  | cs, _, [] => cs
  | cs, o, v :: vs => splice (cs.set o v) (o + 1) vs

theorem splice_length (vs : List Value) : ∀ cs o, (splice cs o vs).length = cs.length := by
  induction vs with
  | nil => intro cs o; rfl
  | cons v vs ih => intro cs o; simp [splice, ih]

theorem splice_get (vs : List Value) : ∀ cs o k, (splice cs o vs)[k]? = if k < cs.length then (if o ≤ k ∧ k < o + vs.length then vs[k - o]? else cs[k]?) else none := by
  induction vs with
  | nil =>
    intro cs o k
    simp only [splice, List.length_nil]
    split
    · rw [if_neg (by omega)]
    · rename_i h; rw [List.getElem?_eq_none (by omega)]
  | cons v vs ih =>
    intro cs o k
    simp only [splice, ih, List.length_set, List.length_cons]
    split
    · rename_i h
      by_cases h1 : o + 1 ≤ k ∧ k < o + 1 + vs.length
      · rw [if_pos h1, if_pos (by omega), show k - o = (k - (o + 1)) + 1 by omega]; simp
      · rw [if_neg h1]
        by_cases h2 : k = o
        · subst h2; rw [if_pos (by omega)]; simp [h]
        · rw [if_neg (by omega), List.getElem?_set_ne (by omega)]
    · rfl

theorem setCell_has {w b cs e o} (v : Value) (h : Has w b cs e) : Has (w.setCell ⟨b, o, none⟩ v) b (cs.set o v) e := by
  unfold Has at *
  simp [World.setCell, Array.getElem?_modify, h]

theorem setCell_agr {w : World} {b o} (v : Value) : Agr (· = b) w (w.setCell ⟨b, o, none⟩ v) :=
  ⟨rfl, rfl, rfl, by simp [World.setCell], fun k _ hn => by simp only [World.setCell, Array.getElem?_modify]; rw [if_neg (fun e => hn e.symm)]⟩
theorem setCell_size {w : World} {a : Addr} (v : Value) : (w.setCell a v).heap.size = w.heap.size := by simp [World.setCell]

theorem run_storeCells {b o e} (vs : List Value) : ∀ (i : Nat) (cs : List Value) (w : World), Has w b cs e → o + i + vs.length ≤ cs.length → vs.all plainV = true →
    ∃ w', (storeCells ⟨b, o, none⟩ vs i).run P w = .ok () w' ∧ Has w' b (splice cs (o + i) vs) e ∧ Agr (· = b) w w' ∧ w'.heap.size = w.heap.size := by
  induction vs with
  | nil => intro i cs w h _ _; exact ⟨w, rfl, h, Agr.refl _ _, rfl⟩
  | cons v vs ih =>
    intro i cs w h hl hp
    simp only [List.length_cons] at hl
    simp only [List.all_cons, Bool.and_eq_true] at hp
    have hlt : o + i < cs.length := by omega
    have hc : w.cell? ⟨b, o + i, none⟩ = some (cs[o + i]) := h.cell (by simp [hlt])
    have hf : w.frozen? ⟨b, o + i, none⟩ = false := h.free
    obtain ⟨w', hr, hh, ha, hs⟩ := ih (i + 1) (cs.set (o + i) v) _ (setCell_has (o := o + i) v h) (by simp; omega) hp.2
    refine ⟨w', ?_, ?_, (setCell_agr v).trans ha, by rw [hs, setCell_size]⟩
    · have hpv := hp.1
      simp only [storeCells, store, bind, Sem.bind]
      rw [add_lit]
      cases v <;> simp only [plainV, Bool.false_eq_true] at hpv <;> simp only [Sem.run, hc, hf, Bool.false_eq_true, if_false] <;> exact hr
    · simpa [splice, Nat.add_assoc] using hh

theorem run_loadVar_agg {w : World} {a : Addr} {t : TypeId} {cs : List Value} (hs : shapeOf P t = some (true, cs.length)) (h : Row w a cs) : (loadVar t a).run P w = .ok (.agg cs.toArray) w := by
  obtain ⟨d, i, hd, hi, hb, hz⟩ := shapeOf_spec hs
  rw [loadVar, run_isAgg hd, hb]
  simp only [if_true]
  rw [run_sizeOf hi, hz, run_bind, run_loadCells h]
  rfl
theorem run_loadVar_one {w : World} {a : Addr} {t : TypeId} {s v} (hs : shapeOf P t = some (false, s)) (h : w.cell? a = some v) : (loadVar t a).run P w = .ok v w := by
  obtain ⟨d, i, hd, hi, hb, hz⟩ := shapeOf_spec hs
  rw [loadVar, run_isAgg hd, hb]
  simp [load, Sem.run, h]
theorem run_storeVar {w : World} {t : TypeId} {v : Value} {b o e cs} {x s} (hs : shapeOf P t = some (x, s)) (hz : v.cells.size = s) (h : Has w b cs e) (hl : o + v.cells.toList.length ≤ cs.length) (hp : v.cells.toList.all plainV = true) :
    ∃ w', (storeVar t ⟨b, o, none⟩ v).run P w = .ok () w' ∧ Has w' b (splice cs o v.cells.toList) e ∧ Agr (· = b) w w' ∧ w'.heap.size = w.heap.size := by
  obtain ⟨d, i, hd, hi, hb, hz'⟩ := shapeOf_spec hs
  obtain ⟨w', hr, hh⟩ := run_storeCells (P := P) (o := o) v.cells.toList 0 cs w h (by omega) hp
  refine ⟨w', ?_, by simpa using hh⟩
  rw [storeVar, run_sizeOf hi, if_neg (by rw [hz, hz']; simp)]
  exact hr

theorem run_newRow {w : World} {e : TypeId} {cs : Array Value} : (newRow e cs).run P w = .ok ⟨w.heap.size, 0, none⟩ (wnew w (.cells cs e)) := by
  simp [newRow, newObj, bind, Sem.bind, Sem.run, wnew, pure]
end
section
variable {P : Program} {n : Cx} {F : (List (Nat × Value))} {w : World} {p : Post} {ops : Array Oper} {rest : List Oper} {d : Option Tmp} {o : Op} {t : TypeId} {pos : String} {af : Array Edge} {g : Option (Nat × Bool)}
theorem EvOp.not {x b ty} (hx : XL.ev F x = some (.bool b)) : EvOp P F (.unOp .not ty x) w (.bool !b) := fun _ _ _ _ _ ρ hρ w' _ => by
  simp only [execOp, hρ x _ hx]; rfl
theorem EvOp.not_dec {x ty} {q : Prop} [Decidable q] (hx : XL.ev F x = some (.bool (decide q))) : EvOp P F (.unOp .not ty x) w (.bool (decide ¬ q)) := by
  have := EvOp.not (P := P) (w := w) (ty := ty) hx
  rwa [← decide_not] at this
theorem EvOp.shr {k k' x y a b ty tx} (hx : XL.ev F x = some (.int k a)) (hy : XL.ev F y = some (.int k' b)) (hb : 0 ≤ b) : EvOp P F (.binOp .shr tx x y ty) w (.int k (a.fdiv (2 ^ min b.toNat k.bits))) := fun _ _ _ _ _ ρ hρ w' _ => by
  simp only [execOp, hρ x _ hx, hρ y _ hy]
  simp [eqGuard, binOp, Op.shift, bind, Sem.bind, pure, show ¬ b < 0 by omega]
theorem EvOp.conv {src dst x k k' a} (hs : intOf? P src = some k') (ht : intOf? P dst = some k) (hx : XL.ev F x = some (.int k' a)) : EvOp P F (.convert src dst x) w (.int k (k.wrap a)) := fun _ _ _ _ _ ρ hρ w' _ => by
  have h1 := intOf?_spec hs
  have h2 := intOf?_spec ht
  simp only [execOp, hρ x _ hx, convert]
  rw [run_bind, run_underlying h1, run_underlying h2]
  rfl
theorem EvOp.len {x a m c ty e s b} (ht : sliceOf P ty = some (e, s, b)) (hx : XL.ev F x = some (.slice a m c)) : EvOp P F (.call ⟨.builtin .len, #[x], #[ty]⟩) w (.int .i64 m) := fun _ _ _ _ _ ρ hρ w' _ => by
  have h1 := (sliceOf_spec ht).1
  simp only [execOp, resolve, hρ x _ hx, bind, Sem.bind, pure, invoke, builtin, List.map_toArray, List.map_cons, List.map_nil]
  simp [Builtin.len_, underlying, program, h1, bind, Sem.bind, Sem.run, pure, goInt]
theorem EvOp.cap {x a m c ty e s b} (ht : sliceOf P ty = some (e, s, b)) (hx : XL.ev F x = some (.slice a m c)) : EvOp P F (.call ⟨.builtin .cap, #[x], #[ty]⟩) w (.int .i64 c) := fun _ _ _ _ _ ρ hρ w' _ => by
  have h1 := (sliceOf_spec ht).1
  simp only [execOp, resolve, hρ x _ hx, bind, Sem.bind, pure, invoke, builtin, List.map_toArray, List.map_cons, List.map_nil]
  simp [Builtin.cap_, underlying, program, h1, bind, Sem.bind, Sem.run, pure, goInt]
end
def evs (F : (List (Nat × Value))) : List Operand → Option (List Value)
  | [] => some []
  | x :: xs => match ev F x, evs F xs with | some v, some vs => some (v :: vs) | _, _ => none

theorem evs_spec {F : (List (Nat × Value))} {ρ : Operand → Value} (hρ : Agrees F ρ) : ∀ (xs : List Operand) (vs : List Value), evs F xs = some vs → xs.map ρ = vs
  | [], vs, h => by simp [evs] at h; subst h; rfl
  | x :: xs, vs, h => by
    simp only [evs] at h
    split at h
    · rename_i v us hv hus
      simp at h; subst h
      simp [hρ x v hv, evs_spec hρ xs us hus]
    · cases h
theorem evs_arr {F : (List (Nat × Value))} {ρ : Operand → Value} (hρ : Agrees F ρ) {xs : List Operand} {vs : List Value} (h : evs F xs = some vs) : xs.toArray.map ρ = vs.toArray := by
  rw [List.map_toArray, evs_spec hρ xs vs h]

def evp (F : (List (Nat × Value))) : List (Nat × Operand) → Option (List (Nat × Value))
  | [] => some []
  | (i, x) :: xs => match ev F x, evp F xs with | some v, some vs => some ((i, v) :: vs) | _, _ => none
theorem evp_spec {F : (List (Nat × Value))} {ρ : Operand → Value} (hρ : Agrees F ρ) : ∀ (xs : List (Nat × Operand)) (vs : List (Nat × Value)), evp F xs = some vs → xs.map (fun (i, x) => (i, ρ x)) = vs
  | [], vs, h => by simp [evp] at h; subst h; rfl
  | (i, x) :: xs, vs, h => by
    simp only [evp] at h
    split at h
    · rename_i v us hv hus
      simp at h; subst h
      simp [hρ x v hv, evp_spec hρ xs us hus]
    · cases h

def placesOf (P : Program) (t : TypeId) : Option (List (Nat × Nat)) :=
  match P.underlying t with
  | some (.struct fs) => fs.toList.mapM fun f => (P.info? f.type).map fun i => (f.offset, i.size)
  | _ => none

section
variable {P : Program}
theorem run_mapM_places {w : World} : ∀ (fs : List Field) (ps : List (Nat × Nat)), (fs.mapM fun f => (P.info? f.type).map fun i => (f.offset, i.size)) = some ps →
    (fs.mapM fun f => (do pure (f.offset, ← sizeOf f.type) : Sem (Nat × Nat))).run P w = .ok ps w
  | [], ps, h => by simp at h; subst h; rfl
  | f :: fs, ps, h => by
    simp only [List.mapM_cons] at h ⊢
    cases hi : P.info? f.type with
    | none => simp [hi] at h
    | some i =>
      simp only [hi, Option.map_some, Option.bind_eq_bind, Option.bind_some] at h
      cases hr : (fs.mapM fun f => (P.info? f.type).map fun i => (f.offset, i.size)) with
      | none => simp [hr] at h
      | some qs =>
        simp only [hr, Option.bind_some, Option.pure_def, Option.some.injEq] at h
        subst h
        rw [run_bind, run_sizeOf hi]
        have ih := run_mapM_places (w := w) fs qs hr
        simp only [pure, Sem.run] at ih ⊢
        rw [run_bind, ih]
        rfl
theorem run_map {α β : Type} (f : α → β) (s : Sem α) (w : World) : (f <$> s).run P w = (match s.run P w with | .ok a w' => .ok (f a) w' | .halt h w' => .halt h w') := by
  rw [map_eq_pure_bind, run_bind]
  cases s.run P w <;> rfl
theorem run_mapM_arr {w : World} {fs : Array Field} {ps : List (Nat × Nat)} (h : (fs.toList.mapM fun f => (P.info? f.type).map fun i => (f.offset, i.size)) = some ps) :
    (fs.mapM fun f => (do pure (f.offset, ← sizeOf f.type) : Sem (Nat × Nat))).run P w = .ok ps.toArray w := by
  rw [Array.mapM_eq_mapM_toList, run_map, run_mapM_places _ _ h]
theorem run_val (s : Sem Value) {w w' : World} {v : Value} (h : s.run P w = .ok v w') : (do pure (Next.value (← s)) : Sem Next).run P w = .ok (.value v) w' := by
  rw [run_bind, h]; rfl
end
section
variable {P : Program} {n : Cx} {F : (List (Nat × Value))} {w : World} {p : Post} {ops : Array Oper} {rest : List Oper} {d : Option Tmp} {o : Op} {t : TypeId} {pos : String} {af : Array Edge} {g : Option (Nat × Bool)}
theorem EvOp.field0 {s x f a b off} (hs : fieldOff P s f = some off) (hx : XL.ev F x = some (.pointer (some ⟨b, a, none⟩))) : EvOp P F (.fieldAddr s x f) w (.pointer (some ⟨b, a + off, none⟩)) := fun _ _ _ _ _ ρ hρ w' _ => by
  obtain ⟨fs, fd, i, h1, h2, h3, h4, h5⟩ := fieldOff_spec hs
  simp only [execOp, hρ x _ hx, Instr.fieldAt]
  rw [run_bind, run_underlying h1]
  simp only [h2]
  simp only [Instr.sureAddr, fieldPlace, sizeOf, typeInfo, program, bind, Sem.bind, pure, Sem.run, h4, h5, if_false, h3, add_lit]
theorem EvOp.fieldA {s x f a off} (hs : fieldOff P s f = some off) (hx : XL.ev F x = some (.pointer (some a))) : EvOp P F (.fieldAddr s x f) w (.pointer (some (a.add off))) := fun _ _ _ _ _ ρ hρ w' _ => by
  obtain ⟨fs, fd, i, h1, h2, h3, h4, h5⟩ := fieldOff_spec hs
  simp only [execOp, hρ x _ hx, Instr.fieldAt]
  rw [run_bind, run_underlying h1]
  simp only [h2]
  simp only [Instr.sureAddr, fieldPlace, sizeOf, typeInfo, program, bind, Sem.bind, pure, Sem.run, h4, h5, if_false, h3]
theorem EvOp.indexA {ty x ix ad m c k i e s by_} (ht : sliceOf P ty = some (e, s, by_)) (hx : XL.ev F x = some (.slice (some ad) m c)) (hi : XL.ev F ix = some (.int k i)) (h : 0 ≤ i ∧ i < m) : EvOp P F (.indexAddr ty x ix) w (.pointer (some (ad.add (i.toNat * s)))) := fun _ _ _ _ _ ρ hρ w' _ => by
  obtain ⟨h1, j, h2, h3, h4⟩ := sliceOf_spec ht
  simp only [execOp, hρ x _ hx, hρ ix _ hi, Instr.indexAt, asIntOf]
  simp only [bind, Sem.bind, pure]
  have := run_underlying (w := w') h1 (α := Next)
  simp only [bind] at this
  simp only [underlying, program, Sem.bind, Sem.run, h1, pure, bind, h, and_self, if_true, sizeOf, typeInfo, h2, h3]
theorem EvOp.index1 {ty x ix cs len k i e s v} (ht : arrOf P ty = some (len, e, s)) (he : shapeOf P e = some (false, s)) (hx : XL.ev F x = some (.agg cs)) (hi : XL.ev F ix = some (.int k i)) (h : 0 ≤ i ∧ i < len) (hv : cs[i.toNat * s]? = some v) : EvOp P F (.index ty x ix) w v := fun _ _ _ _ _ ρ hρ w' _ => by
  obtain ⟨h1, j, h2, h3⟩ := arrOf_spec ht
  obtain ⟨dd, i', g1, g2, g3, g4⟩ := shapeOf_spec he
  simp only [execOp, hρ x _ hx, hρ ix _ hi, Instr.index, asIntOf]
  simp only [bind, Sem.bind, pure]
  simp only [underlying, program, Sem.bind, Sem.run, h1, pure, bind, h, and_self, if_true, sizeOf, typeInfo, h2, h3]
  have hp : (part e cs (i.toNat * s)).run P w' = .ok v w' := by
    rw [part, run_isAgg g1, g3]
    simp [hv, pure]
  have := run_bind (P := P) (part e cs (i.toNat * s)) (fun v => (Sem.pure (Next.value v) : Sem Next)) w'
  rw [hp] at this
  exact this
theorem EvOp.indexN {ty x ix cs len k i e s} (ht : arrOf P ty = some (len, e, s)) (he : shapeOf P e = some (true, s)) (hx : XL.ev F x = some (.agg cs)) (hi : XL.ev F ix = some (.int k i)) (h : 0 ≤ i ∧ i < len) : EvOp P F (.index ty x ix) w (.agg (cs.extract (i.toNat * s) (i.toNat * s + s))) := fun _ _ _ _ _ ρ hρ w' _ => by
  obtain ⟨h1, j, h2, h3⟩ := arrOf_spec ht
  obtain ⟨dd, i', g1, g2, g3, g4⟩ := shapeOf_spec he
  simp only [execOp, hρ x _ hx, hρ ix _ hi, Instr.index, asIntOf]
  simp only [bind, Sem.bind, pure]
  simp only [underlying, program, Sem.bind, Sem.run, h1, pure, bind, h, and_self, if_true, sizeOf, typeInfo, h2, h3]
  have hp : (part e cs (i.toNat * s)).run P w' = .ok (.agg (cs.extract (i.toNat * s) (i.toNat * s + s))) w' := by
    rw [part, run_isAgg g1, g3]
    simp only [if_true]
    rw [run_sizeOf g2, g4]
    rfl
  have := run_bind (P := P) (part e cs (i.toNat * s)) (fun v => (Sem.pure (Next.value v) : Sem Next)) w'
  rw [hp] at this
  exact this
theorem EvOp.extract {x i vs v} (hx : XL.ev F x = some (.tuple vs)) (hv : vs[i]? = some v) : EvOp P F (.extract x i) w v := fun _ _ _ _ _ ρ hρ w' _ => by
  simp only [execOp, hρ x _ hx, Instr.extract, hv]; rfl
theorem EvOp.load1 {ty x a v s} (hs : shapeOf P ty = some (false, s)) (hx : XL.ev F x = some (.pointer (some a))) (hc : w.cell? a = some v) : EvOp P F (.load ty x) w v := fun _ _ _ _ _ ρ hρ w' k => by
  simp only [execOp, hρ x _ hx, Instr.loadAt, Instr.sureAddr, bind, Sem.bind, pure]
  have := run_bind (P := P) (loadVar ty a) (fun v => (Sem.pure (Next.value v) : Sem Next)) w'
  rw [run_loadVar_one hs (cell_sub hc k)] at this
  exact this
theorem EvOp.loadN {ty x a} (cs : List Value) (hs : shapeOf P ty = some (true, cs.length)) (hx : XL.ev F x = some (.pointer (some a))) (hc : Row w a cs) : EvOp P F (.load ty x) w (.agg cs.toArray) := fun _ _ _ _ _ ρ hρ w' k => by
  simp only [execOp, hρ x _ hx, Instr.loadAt, Instr.sureAddr, bind, Sem.bind, pure]
  have := run_bind (P := P) (loadVar ty a) (fun v => (Sem.pure (Next.value v) : Sem Next)) w'
  rw [run_loadVar_agg hs (hc.sub k)] at this
  exact this
theorem EvOp.loadR {ty x a s} (cs : List Value) (hs : shapeOf P ty = some (true, s)) (hx : XL.ev F x = some (.pointer (some a))) (hc : Row w a cs) (hl : cs.length = s) : EvOp P F (.load ty x) w (.agg cs.toArray) := by
  subst hl; exact EvOp.loadN cs hs hx hc
theorem EvOp.func {f xs ys us vs} (hx : evs F xs = some us) (hy : evs F ys = some vs) : EvOp P F (.makeFunc f xs.toArray ys.toArray) w (.func f us.toArray vs.toArray) := fun _ _ _ _ _ ρ hρ w' _ => by
  simp only [execOp, Instr.makeFunc, evs_arr hρ hx, evs_arr hρ hy]; rfl
theorem EvOp.buildS {ty} {xs : List (Nat × Operand)} {vs z ps cs} (hz : zeroOf P ty = some z) (hp : placesOf P ty = some ps) (hx : evp F xs = some vs) (hf : Instr.fill (fun i => ps[i]?) z.cells vs = some cs) : EvOp P F (.build ty xs.toArray) w (.agg cs) := fun _ _ _ _ _ ρ hρ w' _ => by
  unfold placesOf at hp
  split at hp
  · rename_i fs hu
    simp only [execOp]
    refine run_val _ ?_
    rw [Instr.build, run_zeroValue hz, run_underlying hu]
    simp only []
    rw [run_bind, run_mapM_arr hp]
    simp only []
    rw [List.map_toArray, evp_spec hρ xs vs hx]
    simp [hf, pure]
  · cases hp
theorem EvOp.buildA {ty} {xs : List (Nat × Operand)} {vs z cs len e s} (hz : zeroOf P ty = some z) (ht : arrOf P ty = some (len, e, s)) (hx : evp F xs = some vs) (hf : Instr.fill (fun i => some (i * s, s)) z.cells vs = some cs) : EvOp P F (.build ty xs.toArray) w (.agg cs) := fun _ _ _ _ _ ρ hρ w' _ => by
  obtain ⟨h1, j, h2, h3⟩ := arrOf_spec ht
  simp only [execOp]
  refine run_val _ ?_
  rw [Instr.build, run_zeroValue hz, run_underlying h1]
  simp only []
  rw [run_sizeOf h2, h3, List.map_toArray, evp_spec hρ xs vs hx]
  simp [hf, pure]
theorem run_sliceBound {w : World} {k : IntKind} {i : Int} {y : Nat} {c : BoundsCode} (h : 0 ≤ i ∧ i.toNat ≤ y) : (Instr.sliceBound (.int k i) y c).run P w = .ok i.toNat w := by
  simp only [Instr.sliceBound, asIntOf, bind, Sem.bind, pure]
  rw [if_pos (by omega)]; rfl
theorem EvOp.sliceLo {ty x lo a m c k i e s by_} (ht : sliceOf P ty = some (e, s, by_)) (hx : XL.ev F x = some (.slice a m c)) (hi : XL.ev F lo = some (.int k i)) (hb : 0 ≤ i ∧ i ≤ m) :
    EvOp P F (.slice ty x (some lo) none none) w (.slice (if c = i.toNat then a else a.map (·.add (i.toNat * s))) (m - i.toNat) (c - i.toNat)) := fun _ _ _ _ _ ρ hρ w' _ => by
  obtain ⟨h1, j, h2, h3, h4⟩ := sliceOf_spec ht
  simp only [execOp]
  refine run_val _ ?_
  simp only [Instr.sliceAt, hρ x _ hx, Option.map_some, Option.map_none, hρ lo _ hi]
  rw [run_underlying h1]
  simp only [Instr.slice]
  rw [run_underlying h1]
  simp only [Instr.sliceBounds]
  rw [run_bind, run_bind]
  simp only [pure, Sem.run, Option.isSome_none, Bool.false_eq_true, if_false]
  rw [run_bind]
  simp only [Sem.run]
  rw [run_bind, run_sliceBound (by omega)]
  simp only [Sem.run]
  rw [run_sizeOf h2, h3]
  rfl
theorem EvOp.sliceHi {ty x hi_ a m c k i e s by_} (ht : sliceOf P ty = some (e, s, by_)) (hx : XL.ev F x = some (.slice a m c)) (hi : XL.ev F hi_ = some (.int k i)) (hb : 0 ≤ i ∧ i ≤ c) :
    EvOp P F (.slice ty x none (some hi_) none) w (.slice a i.toNat c) := fun _ _ _ _ _ ρ hρ w' _ => by
  obtain ⟨h1, j, h2, h3, h4⟩ := sliceOf_spec ht
  simp only [execOp]
  refine run_val _ ?_
  simp only [Instr.sliceAt, hρ x _ hx, Option.map_some, Option.map_none, hρ hi_ _ hi]
  rw [run_underlying h1]
  simp only [Instr.slice]
  rw [run_underlying h1]
  simp only [Instr.sliceBounds]
  rw [run_bind, run_bind]
  simp only [pure, Sem.run]
  rw [run_bind, run_sliceBound (by omega)]
  simp only []
  rw [run_bind]
  simp only [Sem.run]
  rw [run_sizeOf h2, h3]
  simp only [Sem.run, Nat.zero_mul, Nat.sub_zero, Addr.add, if_true]
  congr 1
  cases a <;> simp
theorem EvOp.sliceHM {ty x hi_ mx a m c k i k' u e s by_} (ht : sliceOf P ty = some (e, s, by_)) (hx : XL.ev F x = some (.slice a m c)) (hi : XL.ev F hi_ = some (.int k i)) (hu : XL.ev F mx = some (.int k' u)) (hb : 0 ≤ i ∧ i ≤ u ∧ u ≤ c) :
    EvOp P F (.slice ty x none (some hi_) (some mx)) w (.slice a i.toNat u.toNat) := fun _ _ _ _ _ ρ hρ w' _ => by
  obtain ⟨h1, j, h2, h3, h4⟩ := sliceOf_spec ht
  simp only [execOp]
  refine run_val _ ?_
  simp only [Instr.sliceAt, hρ x _ hx, Option.map_some, Option.map_none, hρ hi_ _ hi, hρ mx _ hu]
  rw [run_underlying h1]
  simp only [Instr.slice]
  rw [run_underlying h1]
  simp only [Instr.sliceBounds]
  rw [run_bind, run_bind, run_sliceBound (by omega)]
  simp only []
  rw [run_bind, run_sliceBound (by omega)]
  simp only [pure]
  rw [run_bind]
  simp only [Sem.run]
  rw [run_sizeOf h2, h3]
  simp only [Sem.run, Nat.zero_mul, Nat.sub_zero, Addr.add, if_true]
  congr 1
  cases a <;> simp

theorem RL.alloc {el z} (hz : zeroOf P el = some z) (hg : gsat ops F g = some true) (hd : inB d n = true)
    (h : ∀ b w', b = w.heap.size → w'.heap.size = b + 1 → Has w' b z.cells.toList el → Sub w w' → RL P n ops rest (upd F d (.pointer (some ⟨b, 0, none⟩))) w' p) : RL P n ops (⟨d, .alloc el, t, pos, af, g⟩ :: rest) F w p := by
  refine RL.on hg hd (w' := wnew w (.cells z.cells el)) (fun ρ _ => ?_) (h _ _ rfl (wnew_size _ _) (wnew_has _ _ _) (wnew_sub _ _))
  simp only [execOp]
  refine run_val _ ?_
  rw [Instr.alloc, run_zeroValue hz]
  simp only [newVar]
  rw [run_bind, run_newRow]
  rfl
theorem RL.box {el x v} (hx : XL.ev F x = some v) (hg : gsat ops F g = some true) (hd : inB d n = true)
    (h : ∀ b w', b = w.heap.size → w'.heap.size = b + 1 → Has w' b v.cells.toList el → Sub w w' → RL P n ops rest (upd F d (.pointer (some ⟨b, 0, none⟩))) w' p) : RL P n ops (⟨d, .box el x, t, pos, af, g⟩ :: rest) F w p := by
  refine RL.on hg hd (w' := wnew w (.cells v.cells el)) (fun ρ hρ => ?_) (h _ _ rfl (wnew_size _ _) (wnew_has _ _ _) (wnew_sub _ _))
  simp only [execOp, hρ x _ hx]
  refine run_val _ ?_
  rw [Instr.box, newVar, run_bind, run_newRow]
  rfl
theorem RL.store {ty x y b o e cs v k s} (hs : shapeOf P ty = some (k, s)) (hx : XL.ev F x = some (.pointer (some ⟨b, o, none⟩))) (hy : XL.ev F y = some v) (hz : v.cells.size = s) (hb : Has w b cs e) (hl : o + v.cells.toList.length ≤ cs.length) (hp : v.cells.toList.all plainV = true) (hg : gsat ops F g = some true)
    (h : ∀ w', w'.heap.size = w.heap.size → Has w' b (splice cs o v.cells.toList) e → Agr (· = b) w w' → RL P n ops rest F w' p) : RL P n ops (⟨none, .store ty x y, t, pos, af, g⟩ :: rest) F w p := by
  obtain ⟨w', hr, hh, ha, hsz⟩ := run_storeVar (P := P) hs hz hb hl hp
  refine RL.on_skip hg (w' := w') (fun ρ hρ => ?_) (h w' hsz hh ha)
  simp only [execOp, hρ x _ hx, hρ y _ hy, Instr.storeAt, Instr.sureAddr, bind, Sem.bind, pure]
  have := run_bind (P := P) (storeVar ty ⟨b, o, none⟩ v) (fun _ => (Sem.pure Next.skip : Sem Next)) w
  rw [hr] at this
  exact this
end
def FC (P : Program) (f : FuncId) (args : List Value) (w : World) (R : Value → World → Prop) : Prop :=
  Calls P f args.toArray w fun e w' => ∃ v, e = .returned v ∧ R v w'

theorem FC.mono {P f args w} {R R' : Value → World → Prop} (h : FC P f args w R) (hr : ∀ v w', R v w' → R' v w') : FC P f args w R' :=
  Calls.mono h fun _ _ ⟨v, he, hR⟩ => ⟨v, he, hr _ _ hR⟩

theorem calleeOK_spec {P : Program} {f : FuncId} (h : calleeOK P f = true) : ∃ fn, P.funcs[f]? = some fn ∧ (fn.name == "runtime.NumGoroutine") = false ∧ fn.body.isNone = false := by
  unfold calleeOK at h
  split at h
  · rename_i fn hf
    simp only [Bool.and_eq_true, bne_iff_ne, ne_eq] at h
    refine ⟨fn, hf, by simpa using h.1, by cases hb : fn.body <;> simp_all⟩
  · cases h

section
variable {P : Program} {n : Cx} {F : (List (Nat × Value))} {w : World} {p : Post} {ops : Array Oper} {rest : List Oper} {d : Option Tmp} {o : Op} {t : TypeId} {pos : String} {af : Array Edge} {g : Option (Nat × Bool)}
theorem run_callFunc {f : FuncId} {args : Array Value} (h : calleeOK P f = true) : (callFunc f args).run P w = .ok (.enter f args) w := by
  obtain ⟨fn, hf, h1, h2⟩ := calleeOK_spec h
  simp only [callFunc, program, bind, Sem.bind, Sem.run, hf, h1, h2, Bool.false_eq_true, if_false]
  rfl

theorem RL.calls {f : FuncId} {args : List Value} (hr : ∀ ρ, Agrees F ρ → (execOp ρ ⟨d, o, t, pos, af, g⟩).run P w = .ok (.enter f args.toArray) w) {R : Value → World → Prop} (hc : FC P f args w R) (hg : gsat ops F g = some true) (hd : inB d n = true)
    (h : ∀ v w', R v w' → RL P n ops rest (upd F d v) w' p) : RL P n ops (⟨d, o, t, pos, af, g⟩ :: rest) F w p := by
  intro a k
  have he := hr _ k.agrees
  cases hq : n.round with
  | none =>
    rw [lwp_none hq]
    simp only [wpList]
    rw [wanted_of k hg]
    refine .inl ?_
    simp only [Oper.wp, he, Oper.upon]
    refine Calls.mono hc ?_
    rintro e w' ⟨v, rfl, hR⟩
    have := h v w' hR _ (k.upd d v hd)
    rwa [lwp_none hq] at this
  | some r =>
    rw [lwp_some hq]
    simp only [wpListIn]
    rw [wanted_of k hg, if_pos rfl]
    refine ⟨fun _ _ => trivial, ?_⟩
    rw [Oper.semAt_eq _ _ _ (not_defer he (fun _ e => by cases e)), he]
    refine ⟨fun e => (by cases e), ?_⟩
    refine CallsIn.mono (callsIn_rfe hc) ?_
    rintro e w' ⟨v, rfl, hR⟩
    have := h v w' hR _ (k.upd d v hd)
    rwa [lwp_some hq] at this

theorem run_call {f : FuncId} {xs : List Operand} {vs : List Value} {ts : Array TypeId} (hx : evs F xs = some vs) (hf : calleeOK P f = true) (ρ : Operand → Value) (hρ : Agrees F ρ) :
    (execOp ρ ⟨d, .call ⟨.value (.func f), xs.toArray, ts⟩, t, pos, af, g⟩).run P w = .ok (.enter f vs.toArray) w := by
  have h0 : ρ (.func f) = .func (.func f) #[] #[] := hρ _ _ rfl
  simp only [execOp, resolve, h0, Deferred.ofValue, evs_arr hρ hx, bind, Sem.bind, pure, invoke]
  simp only [Array.append_empty, Array.empty_append]
  exact run_callFunc hf
theorem run_callv {f : FuncId} {y : Operand} {xs : List Operand} {us cs vs : List Value} {ts : Array TypeId} (hy : XL.ev F y = some (.func (.func f) us.toArray cs.toArray)) (hx : evs F xs = some vs) (hf : calleeOK P f = true) (ρ : Operand → Value) (hρ : Agrees F ρ) :
    (execOp ρ ⟨d, .call ⟨.value y, xs.toArray, ts⟩, t, pos, af, g⟩).run P w = .ok (.enter f (us ++ vs ++ cs).toArray) w := by
  simp only [execOp, resolve, hρ y _ hy, Deferred.ofValue, evs_arr hρ hx, bind, Sem.bind, pure, invoke, List.append_toArray]
  exact run_callFunc hf
theorem RL.call {f : FuncId} {xs : List Operand} {vs : List Value} {ts : Array TypeId} (hx : evs F xs = some vs) (hf : calleeOK P f = true) {R : Value → World → Prop} (hc : FC P f vs w R) (hg : gsat ops F g = some true) (hd : inB d n = true)
    (h : ∀ v w', R v w' → RL P n ops rest (upd F d v) w' p) : RL P n ops (⟨d, .call ⟨.value (.func f), xs.toArray, ts⟩, t, pos, af, g⟩ :: rest) F w p :=
  RL.calls (fun ρ hρ => run_call hx hf ρ hρ) hc hg hd h
theorem RL.callv {f : FuncId} {y : Operand} {xs : List Operand} {us cs vs : List Value} {ts : Array TypeId} (hy : XL.ev F y = some (.func (.func f) us.toArray cs.toArray)) (hx : evs F xs = some vs) (hf : calleeOK P f = true) {R : Value → World → Prop} (hc : FC P f (us ++ vs ++ cs) w R) (hg : gsat ops F g = some true) (hd : inB d n = true)
    (h : ∀ v w', R v w' → RL P n ops rest (upd F d v) w' p) : RL P n ops (⟨d, .call ⟨.value y, xs.toArray, ts⟩, t, pos, af, g⟩ :: rest) F w p :=
  RL.calls (fun ρ hρ => run_callv hy hx hf ρ hρ) hc hg hd h

def env0 : Nat → List Value → (List (Nat × Value))
  | _, [] => []
  | i, v :: vs => (i, v) :: env0 (i + 1) vs
theorem look_env0 (vs : List Value) : ∀ i t v, look (env0 i vs) t = some v → i ≤ t ∧ vs[t - i]? = some v := by
  induction vs with
  | nil => intro i t v h; simp [env0, look] at h
  | cons u vs ih =>
    intro i t v h
    rw [env0, look_cons] at h
    split at h
    · rename_i e; subst e; simp at h; subst h; simp
    · rename_i hne
      obtain ⟨h1, h2⟩ := ih (i + 1) t v h
      refine ⟨by omega, ?_⟩
      rw [show t - i = (t - (i + 1)) + 1 by omega]; simpa using h2

def resV (P : Program) (F : (List (Nat × Value))) (w : World) : ResultVar → Value → Prop
  | .tmp t, v => look F t = some v
  | .cell a t, v => ∃ ad, look F a = some (.pointer (some ad)) ∧ ((∃ s, shapeOf P t = some (false, s) ∧ w.cell? ad = some v) ∨ (∃ cs : List Value, shapeOf P t = some (true, cs.length) ∧ Row w ad cs ∧ v = .agg cs.toArray))
def resVs (P : Program) (F : (List (Nat × Value))) (w : World) : List ResultVar → List Value → Prop
  | [], [] => True
  | r :: rs, v :: vs => resV P F w r v ∧ resVs P F w rs vs
  | _, _ => False
def tup : List Value → Value | [v] => v | vs => .tuple vs.toArray

def rvSem (tmps : Array Value) : ResultVar → Sem Value
  | .tmp t => pure (tmps.getD t undef)
  | .cell a t => do loadVar t (← asAddr (tmps.getD a undef))
theorem results_eq (fn : Func) (tmps : Array Value) : results fn tmps = (fn.results.mapM (rvSem tmps) >>= fun vs => pure (if h : vs.size = 1 then vs[0] else .tuple vs)) := by
  unfold results
  congr 2
theorem run_resV {a : Act} (k : Knows n F a) {r v} (h : resV P F w r v) : (rvSem a.tmps r).run P w = .ok v w := by
  unfold rvSem
  cases r with
  | tmp t => have := k.slot t v h; simp [this, pure]
  | cell x t =>
    obtain ⟨ad, hl, h⟩ := h
    have hs := k.slot x _ hl
    simp only [Array.getD_eq_getD_getElem?, hs, Option.getD_some, asAddr, bind, Sem.bind, pure]
    rcases h with ⟨s, hs, hc⟩ | ⟨cs, hs, hr, rfl⟩
    · exact run_loadVar_one hs hc
    · exact run_loadVar_agg hs hr
theorem run_results {a : Act} (k : Knows n F a) {fn : Func} {rs : List ResultVar} (hrs : fn.results = rs.toArray) {vs : List Value} (h : resVs P F w rs vs) : (results fn a.tmps).run P w = .ok (tup vs) w := by
  rw [results_eq, run_bind, hrs, Array.mapM_eq_mapM_toList, run_map]
  have key : ∀ (rs : List ResultVar) (vs : List Value), resVs P F w rs vs → (rs.mapM (rvSem a.tmps)).run P w = .ok vs w := by
    intro rs
    induction rs with
    | nil => intro vs h; cases vs <;> simp_all [resVs]
    | cons r rs ih =>
      intro vs h
      cases vs with
      | nil => simp [resVs] at h
      | cons v vs =>
        obtain ⟨h1, h2⟩ := h
        rw [List.mapM_cons, run_bind, run_resV k h1]
        simp only []
        rw [run_bind, ih vs h2]
        rfl
  rw [key rs vs h]
  simp only [pure, Sem.run]
  match vs with
  | [] => simp [tup]
  | [v] => simp [tup]
  | u :: v :: vs => simp [tup]

def Post.fn (P : Program) (fn : Func) (R : Value → World → Prop) : Post :=
  let r : Act → World → Prop := fun a w => a.defers = [] ∧ ∃ v, (results fn a.tmps).run P w = .ok v w ∧ R v w
  ⟨r, [], r⟩

theorem FC.intro {f : FuncId} {fn : Func} {c : Code} {args : List Value} {R : Value → World → Prop} {m : Nat} (hf : P.funcs[f]? = some fn) (hb : fn.body = some c) (hn : fn.ntmps = m) (ha : Nat.ble args.length m = true)
    (h : RC P ⟨m, none, []⟩ c (env0 0 args) w (Post.fn P fn R)) : FC P f args w R := by
  have ha' : args.length ≤ m := by simpa using ha
  refine calls_of_wp hf hb (wp_mono (h _ ⟨?_, rfl, ?_⟩) ?_)
  · simp [hn]; omega
  · intro t v ht
    obtain ⟨_, h2⟩ := look_env0 args 0 t v ht
    simp only [Nat.sub_zero] at h2
    have hlt : t < args.length := by
      rcases Nat.lt_or_ge t args.length with g | g
      · exact g
      · rw [List.getElem?_eq_none g] at h2; cases h2
    simp only []
    rw [Array.getElem?_append_left (by simpa using hlt)]
    simpa using h2
  · intro e a w' hq
    cases e <;> simp only [Post.q, Post.fn, lookX] at hq <;> first | exact hq.elim | skip
    · obtain ⟨h1, v, h2, h3⟩ := hq; exact ⟨h1, v, h2, v, rfl, h3⟩
    · obtain ⟨h1, v, h2, h3⟩ := hq; exact ⟨h1, v, h2, v, rfl, h3⟩
theorem RC.done {fn : Func} {R : Value → World → Prop} {rs : List ResultVar} {vs : List Value} (hrs : fn.results = rs.toArray) (hp : p.ret = (Post.fn P fn R).ret) (hv : resVs P F w rs vs) (hR : R (tup vs) w) (hM : n.marks = [] := by rfl) : RC P n .ret F w p :=
  RC.ret fun a k => by rw [hp]; exact ⟨k.defers.trans hM, _, run_results k hrs hv, hR⟩
def RQ (P : Program) (n : Cx) (ops : Array Oper) (l : List Oper) (F : (List (Nat × Value))) (w : World) (K : Act → Prop) : Prop := ∀ a, Knows n F a → wpQuiet P ops (Sub w) K l a

theorem RC.draw {id l} (hl : ops = List.toArray l) (hm : P.follows .mixedOrders = true) (hB : Region.lexB .any ops = true) (h : RQ P n ops l F w (fun a => ∀ w', Sub w w' → p.nrm a w')) (hR : n.round = none := by rfl) : RC P n (.region id ops true) F w p := by
  intro a k
  rw [cwp_none hR]
  refine wp_region_quiet (C := Sub w) hm hB ⟨rfl, rfl, rfl, Nat.le_refl _, fun _ _ => rfl⟩ ?_
  subst hl
  exact h a k
theorem RQ.nil (h : ∀ w', Sub w w' → ∀ a, Knows n F a → p.nrm a w') : RQ P n ops [] F w (fun a => ∀ w', Sub w w' → p.nrm a w') := fun a k => wpQuiet_nil fun w' hw => h w' hw a k
theorem RQ.ev {v K} (he : EvOp P F o w v) (hg : gsat ops F g = some true) (hd : inB d n = true) (h : RQ P n ops rest (upd F d v) w K) : RQ P n ops (⟨d, o, t, pos, af, g⟩ :: rest) F w K := by
  intro a k
  refine wpQuiet_step fun K' hK' => ?_
  rw [wanted_of k hg]
  refine ⟨v, fun w' hw' => ?_, hK' _ (h _ (k.upd d v hd))⟩
  rw [Oper.quietAt, he d t pos af g _ k.agrees w' hw']
  exact ⟨rfl, rfl⟩
theorem RQ.off {K} (hg : gsat ops F g = some false) (hd : inB d n = true) (h : RQ P n ops rest (upd F d undef) w K) : RQ P n ops (⟨d, o, t, pos, af, g⟩ :: rest) F w K := by
  intro a k
  refine wpQuiet_step fun K' hK' => ?_
  rw [wanted_of k hg]
  exact hK' _ (h _ (k.upd d undef hd))
theorem RQ.calls {f : FuncId} {args : List Value} {v K} (hr : ∀ w' ρ, Agrees F ρ → (execOp ρ ⟨d, o, t, pos, af, g⟩).run P w' = .ok (.enter f args.toArray) w') (hc : ∀ w', Sub w w' → FC P f args w' (fun u w'' => u = v ∧ Sub w' w'')) (hg : gsat ops F g = some true) (hd : inB d n = true)
    (h : RQ P n ops rest (upd F d v) w K) : RQ P n ops (⟨d, o, t, pos, af, g⟩ :: rest) F w K := by
  intro a k
  refine wpQuiet_step fun K' hK' => ?_
  rw [wanted_of k hg]
  refine ⟨v, fun w' hw' => ?_, hK' _ (h _ (k.upd d v hd))⟩
  rw [Oper.quietAt, hr w' _ k.agrees]
  refine ⟨rfl, Calls.mono (hc w' hw') ?_⟩
  rintro e w'' ⟨u, rfl, rfl, hs⟩
  exact ⟨rfl, hw'.trans hs⟩
theorem RQ.callv {f : FuncId} {y : Operand} {xs : List Operand} {us cs vs : List Value} {ts : Array TypeId} {v K} (hy : XL.ev F y = some (.func (.func f) us.toArray cs.toArray)) (hx : evs F xs = some vs) (hf : calleeOK P f = true) (hc : ∀ w', Sub w w' → FC P f (us ++ vs ++ cs) w' (fun u w'' => u = v ∧ Sub w' w'')) (hg : gsat ops F g = some true) (hd : inB d n = true)
    (h : RQ P n ops rest (upd F d v) w K) : RQ P n ops (⟨d, .call ⟨.value y, xs.toArray, ts⟩, t, pos, af, g⟩ :: rest) F w K :=
  RQ.calls (fun _ ρ hρ => run_callv hy hx hf ρ hρ) hc hg hd h
theorem RQ.split {q : Prop} [Decidable q] {l K} (s : Nat) (hs : look F s = some (.bool (decide q))) (hy : q → RQ P n ops l ((s, .bool true) :: F) w K) (hn : ¬ q → RQ P n ops l ((s, .bool false) :: F) w K) : RQ P n ops l F w K := by
  intro a k
  by_cases hq : q
  · refine hy hq a ⟨k.size, k.defers, fun t v ht => ?_⟩
    rw [look_cons] at ht
    by_cases e : s = t
    · subst e; simp at ht; subst ht; simpa [hq] using k.slot _ _ hs
    · rw [if_neg e] at ht; exact k.slot _ _ ht
  · refine hn hq a ⟨k.size, k.defers, fun t v ht => ?_⟩
    rw [look_cons] at ht
    by_cases e : s = t
    · subst e; simp at ht; subst ht; simpa [hq] using k.slot _ _ hs
    · rw [if_neg e] at ht; exact k.slot _ _ ht
end
theorem Has.upd {w w' b b' cs e} (h : Has w b cs e) (a : Agr (· = b') w w') (hn : b ≠ b') : Has w' b cs e := h.step a hn
theorem Has.ne {w b cs e b'} (h : Has w b cs e) (hb : b' = w.heap.size) : b ≠ b' := fun e => by have := h.lt; omega
theorem Sub.upd {w0 w w' : World} {b : Nat} (s : Sub w0 w) (a : Agr (· = b) w w') (hb : w0.heap.size ≤ b) : Sub w0 w' :=
  ⟨a.os.trans s.os, a.tape.trans s.tape, a.output.trans s.output, Nat.le_trans s.size a.size, fun k hk => (a.block k (Nat.lt_of_lt_of_le hk s.size) (by omega)).trans (s.block k hk)⟩
theorem Sub.le {w0 w : World} {b : Nat} (s : Sub w0 w) (hb : b = w.heap.size) : w0.heap.size ≤ b := hb ▸ s.size

structure Sl (w : World) (a : Option Addr) (sz : Nat) (rows : List (List Value)) : Prop where
  some : rows ≠ [] → a.isSome
  row : ∀ i r, rows[i]? = .some r → Row w ((a.getD default).add (i * sz)) r

theorem Sl.sub {w w' a sz rows} (h : Sl w a sz rows) (s : Sub w w') : Sl w' a sz rows := ⟨h.some, fun i r hr => (h.row i r hr).sub s⟩
theorem Sl.take {w a sz rows} (h : Sl w a sz rows) (k : Nat) : Sl w a sz (rows.take k) :=
  ⟨fun e => h.some (by intro e'; subst e'; simp at e), fun i r hr => h.row i r (by rw [List.getElem?_take] at hr; split at hr; exact hr; cases hr)⟩
theorem Sl.nil (w : World) (a : Option Addr) (sz : Nat) : Sl w a sz [] := ⟨fun h => absurd rfl h, fun i r hr => by simp at hr⟩
theorem Sl.is {w a sz rows} (h : Sl w a sz rows) {i : Nat} (hi : i < rows.length) : a = .some (a.getD default) := by
  have := h.some (by intro e; subst e; simp at hi)
  cases a with
  | none => simp at this
  | some x => rfl
theorem Sl.cell {α : Type} {enc : α → List Value} {l : List α} {w a sz} (h : Sl w a sz (l.map enc)) {i : Nat} {x : α} (hx : l[i]? = .some x) {j v} (hv : (enc x)[j]? = .some v) : w.cell? (((a.getD default).add (i * sz)).add j) = .some v :=
  h.row i (enc x) (by simp [hx]) j v hv
theorem Sl.rowAt {α : Type} {enc : α → List Value} {l : List α} {w a sz} (h : Sl w a sz (l.map enc)) {i : Nat} {x : α} (hx : l[i]? = .some x) : Row w ((a.getD default).add (i * sz)) (enc x) :=
  h.row i (enc x) (by simp [hx])
theorem Sl.one {α : Type} {enc : α → Value} {l : List α} {w a} (h : Sl w a 1 (l.map fun x => [enc x])) {i : Nat} {x : α} (hx : l[i]? = .some x) : w.cell? ((a.getD default).add (i * 1)) = .some (enc x) := by
  have := h.row i [enc x] (by simp [hx]) 0 (enc x) rfl
  simpa [Addr.add] using this

section
variable {P : Program} {n : Cx} {F : (List (Nat × Value))} {w : World} {p : Post} {ops : Array Oper} {rest : List Oper} {d : Option Tmp} {o : Op} {t : TypeId} {pos : String} {af : Array Edge} {g : Option (Nat × Bool)}
theorem EvOp.indexS {ty x ix a m c k i e s by_} (ht : sliceOf P ty = some (e, s, by_)) (hx : XL.ev F x = some (.slice a m c)) (hi : XL.ev F ix = some (.int k i)) (h : 0 ≤ i ∧ i < m) (ha : a = some (a.getD default)) : EvOp P F (.indexAddr ty x ix) w (.pointer (some ((a.getD default).add (i.toNat * s)))) := by
  generalize hz : a.getD default = ad at ha ⊢
  subst ha
  exact EvOp.indexA ht hx hi h

theorem RC.cond_t {c x y} (hc : XL.ev F c = some (.bool true)) (h : RC P n x F w p) : RC P n (.cond c x y) F w p := RC.cond hc (fun _ => h) (fun e => by cases e)
theorem RC.cond_f {c x y} (hc : XL.ev F c = some (.bool false)) (h : RC P n y F w p) : RC P n (.cond c x y) F w p := RC.cond hc (fun e => by cases e) (fun _ => h)

end
theorem flat_rep {α : Type} (z : List α) (hs : 0 < z.length) : ∀ (m i : Nat), (List.replicate m z).flatten[i]? = if i < m * z.length then z[i % z.length]? else none
  | 0, i => by simp
  | m + 1, i => by
    rw [List.replicate_succ, List.flatten_cons, List.getElem?_append, flat_rep z hs m]
    have e : (m + 1) * z.length = m * z.length + z.length := Nat.succ_mul _ _
    by_cases h : i < z.length
    · rw [if_pos h, if_pos (by omega), Nat.mod_eq_of_lt h]
    · rw [if_neg h, Nat.mod_eq_sub_mod (by omega : i ≥ z.length)]
      by_cases h2 : i - z.length < m * z.length
      · rw [if_pos h2, if_pos (by omega)]
      · rw [if_neg h2, if_neg (by omega)]

theorem zeros_list (z : Array Value) (hs : 0 < z.size) (m : Nat) : (Array.range (m * z.size)).map (fun i => z[i % z.size]!) = (List.replicate m z.toList).flatten.toArray := by
  apply Array.ext'
  apply List.ext_getElem?
  intro i
  have hl : 0 < z.toList.length := by simpa using hs
  rw [flat_rep z.toList hl m i, Array.getElem?_toList, Array.getElem?_map]
  simp only [Array.length_toList, Array.getElem?_toList]
  by_cases h : i < m * z.size
  · have hm : i % z.size < z.size := Nat.mod_lt _ hs
    rw [if_pos h, Array.getElem?_eq_getElem (by simpa using h)]
    simp [hm]
  · rw [if_neg h, Array.getElem?_eq_none (by simpa using h)]; rfl

theorem flat_get {α : Type} {sz : Nat} : ∀ (rows : List (List α)), (∀ r ∈ rows, r.length = sz) → ∀ (i j : Nat) (r : List α), rows[i]? = some r → j < sz → rows.flatten[i * sz + j]? = r[j]?
  | [], _, i, j, r, h, _ => by simp at h
  | q :: rows, hl, i, j, r, h, hj => by
    have hq : q.length = sz := hl q (by simp)
    rw [List.flatten_cons, List.getElem?_append]
    cases i with
    | zero => simp at h; subst h; rw [if_pos (by omega)]; simp
    | succ i =>
      have e : (i + 1) * sz = i * sz + sz := Nat.succ_mul _ _
      rw [if_neg (by omega), show (i + 1) * sz + j - q.length = i * sz + j by omega]
      exact flat_get rows (fun r hr => hl r (by simp [hr])) i j r (by simpa using h) hj
theorem flat_len {α : Type} {sz : Nat} : ∀ (rows : List (List α)), (∀ r ∈ rows, r.length = sz) → rows.flatten.length = rows.length * sz
  | [], _ => by simp
  | q :: rows, hl => by
    rw [List.flatten_cons, List.length_append, flat_len rows (fun r hr => hl r (by simp [hr])), hl q (by simp), List.length_cons, Nat.succ_mul]; omega
theorem flat_set {sz : Nat} (rows : List (List Value)) (hl : ∀ r ∈ rows, r.length = sz) (i : Nat) (hi : i < rows.length) (r : List Value) (hr : r.length = sz) : splice rows.flatten (i * sz) r = (rows.set i r).flatten := by
  apply List.ext_getElem?
  intro k
  have hl' : ∀ q ∈ rows.set i r, q.length = sz := by
    intro q hq
    rcases List.mem_or_eq_of_mem_set hq with h | h
    · exact hl q h
    · exact h ▸ hr
  rw [splice_get, flat_len rows hl]
  by_cases hk : k < rows.length * sz
  · have hsz : 0 < sz := by rcases Nat.eq_zero_or_pos sz with h | h; · subst h; simp at hk
                            · exact h
    rw [if_pos hk]
    have hd : k / sz < rows.length := (Nat.div_lt_iff_lt_mul hsz).2 hk
    have hm : k % sz < sz := Nat.mod_lt _ hsz
    have ek : k = (k / sz) * sz + k % sz := by rw [Nat.mul_comm]; exact (Nat.div_add_mod k sz).symm
    obtain ⟨q, hq⟩ : ∃ q, (rows.set i r)[k / sz]? = some q := ⟨_, List.getElem?_eq_getElem (by simpa using hd)⟩
    have h1 := flat_get (rows.set i r) hl' (k / sz) (k % sz) q hq hm
    rw [← ek] at h1
    rw [h1]
    by_cases hki : k / sz = i
    · subst hki
      rw [List.getElem?_set_self hd] at hq
      cases hq
      rw [if_pos ⟨by omega, by rw [hr]; omega⟩]
      congr 1; omega
    · rw [List.getElem?_set_ne (fun e => hki e.symm)] at hq
      have h2 := flat_get rows hl (k / sz) (k % sz) q hq hm
      rw [← ek] at h2
      rw [if_neg ?_, h2]
      rintro ⟨g1, g2⟩
      rw [hr] at g2
      apply hki
      have hle : i * sz ≤ k := g1
      have hlt : k < (i + 1) * sz := by rw [Nat.succ_mul]; exact g2
      exact Nat.le_antisymm (Nat.lt_succ_iff.1 ((Nat.div_lt_iff_lt_mul hsz).2 hlt)) ((Nat.le_div_iff_mul_le hsz).2 hle)
  · rw [if_neg hk, List.getElem?_eq_none]
    rw [flat_len _ hl', List.length_set]; omega

theorem Has.sl {w b e sz} {rows : List (List Value)} {extra : List Value} (h : Has w b (rows.flatten ++ extra) e) (hl : ∀ r ∈ rows, r.length = sz) : Sl w (some ⟨b, 0, none⟩) sz rows :=
  ⟨fun _ => rfl, fun i r hr j v hv => by
    have hj : j < sz := by
      have := hl r (List.mem_of_getElem? hr)
      rcases Nat.lt_or_ge j r.length with g | g
      · omega
      · rw [List.getElem?_eq_none g] at hv; cases hv
    simp only [Option.getD_some, add_lit, Nat.zero_add]
    refine h.cell ?_
    have := flat_get rows hl i j r hr hj
    rw [List.getElem?_append_left, this]; exact hv
    rcases Nat.lt_or_ge (i * sz + j) rows.flatten.length with g | g
    · exact g
    · rw [List.getElem?_eq_none g] at this; rw [hv] at this; cases this⟩
theorem Has.sl0 {w b e sz} {rows : List (List Value)} (h : Has w b rows.flatten e) (hl : ∀ r ∈ rows, r.length = sz) : Sl w (some ⟨b, 0, none⟩) sz rows :=
  Has.sl (extra := []) (by simpa using h) hl

section
variable {P : Program} {n : Cx} {F : (List (Nat × Value))} {w : World} {p : Post} {ops : Array Oper} {rest : List Oper} {d : Option Tmp} {o : Op} {t : TypeId} {pos : String} {af : Array Edge} {g : Option (Nat × Bool)}
theorem run_zeroValue' {t z} {w : World} (h : zeroOf P t = some z) : (zeroValue t).run P w = .ok z w := by
  obtain ⟨i, hi, hz⟩ := zeroOf_spec h
  simp [zeroValue, typeInfo, program, bind, Sem.bind, Sem.run, hi, hz, pure]
theorem RL.buildSlice {ty m} {xs : List (Nat × Operand)} {vs e s by_ z cs} (ht : sliceOf P ty = some (e, s, by_)) (hz : zeroOf P e = some z) (hx : evp F xs = some vs) (hm : Nat.ble (m * s) 16777216 = true) (hm0 : Nat.beq (m * s) 0 = false)
    (hf : Instr.fill (fun i => some (i * s, s)) ((Array.range (m * s)).map (z.cells[· % z.cells.size]!)) vs = some cs) (hg : gsat ops F g = some true) (hd : inB d n = true)
    (h : ∀ b w', b = w.heap.size → w'.heap.size = b + 1 → Has w' b cs.toList e → Sub w w' → RL P n ops rest (upd F d (.slice (some ⟨b, 0, none⟩) m m)) w' p) : RL P n ops (⟨d, .buildSlice ty m xs.toArray, t, pos, af, g⟩ :: rest) F w p := by
  refine RL.on hg hd (w' := wnew w (.cells cs e)) (fun ρ hρ => ?_) (h _ _ rfl (wnew_size _ _) (wnew_has _ _ _) (wnew_sub _ _))
  obtain ⟨h1, j, h2, h3, h4⟩ := sliceOf_spec ht
  have hm' : ¬ (m * s > 2 ^ 24) := by have : m * s ≤ 16777216 := by simpa using hm
                                      omega
  have hm0' : ¬ m * s = 0 := by intro e; rw [e] at hm0; cases hm0
  simp only [execOp]
  refine run_val _ ?_
  rw [Instr.buildSlice, run_underlying h1]
  simp only []
  rw [run_sizeOf h2, h3, if_neg hm', if_neg hm0']
  rw [run_bind]
  rw [run_zeroValue' hz]
  simp only []
  rw [run_bind]
  simp only [pure, Sem.run]
  have hmap : (Array.map (fun (x : Nat × Operand) => (x.fst, ρ x.snd)) xs.toArray).toList = vs := by
    rw [Array.toList_map]; exact evp_spec hρ xs vs hx
  rw [hmap]
  rw [hf]
  simp only []
  rw [run_bind, run_newRow]
  rfl
theorem RL.buildSlice1 {ty x v e s by_} (ht : sliceOf P ty = some (e, s, by_)) (z : Value) (hz : zeroOf P e = some z) (hzs : z.cells.size = s) (hx : XL.ev F x = some v) (hvs : v.cells.size = s) (hs : Nat.blt 0 s = true) (hs' : Nat.ble s 16777216 = true) (hg : gsat ops F g = some true) (hd : inB d n = true)
    (h : ∀ b w', b = w.heap.size → w'.heap.size = b + 1 → Has w' b v.cells.toList e → Sub w w' → RL P n ops rest (upd F d (.slice (some ⟨b, 0, none⟩) 1 1)) w' p) : RL P n ops (⟨d, .buildSlice ty 1 #[(0, x)], t, pos, af, g⟩ :: rest) F w p := by
  have h0 : 0 < s := by simpa using hs
  refine RL.buildSlice (xs := [(0, x)]) (vs := [(0, v)]) (cs := v.cells) ht hz (by simp [evp, hx]) (by simpa using hs') (by rw [Nat.one_mul]; cases s with | zero => omega | succ s => rfl) ?_ hg hd h
  simp only [Instr.fill, Nat.zero_mul, Nat.zero_add, hvs, Array.size_map, Array.size_range, Nat.one_mul, ne_eq, not_true_eq_false, decide_false, gt_iff_lt, Nat.lt_irrefl, Bool.or_self, Bool.false_eq_true, if_false]
  congr 1
  have key : ∀ (l : List Value) (cs : List Value) (k : Nat), k + l.length = cs.length → (l.zipIdx k).foldl (fun (cs : Array Value) (c, j) => cs.setIfInBounds j c) cs.toArray = (cs.take k ++ l).toArray := by
    intro l
    induction l with
    | nil => intro cs k hk; simp at hk; simp [List.take_of_length_le (Nat.le_of_eq hk.symm)]
    | cons a l ih =>
      intro cs k hk
      simp only [List.length_cons] at hk
      simp only [List.zipIdx_cons, List.foldl_cons, List.setIfInBounds_toArray]
      rw [ih (cs.set k a) (k + 1) (by simp; omega)]
      congr 1
      rw [List.take_add_one, List.getElem?_set_self (by omega), List.take_set, List.set_eq_of_length_le (by simp; omega)]
      simp
  have := key v.cells.toList ((Array.range s).map (z.cells[· % z.cells.size]!)).toList 0 (by simp [hvs])
  simp only [List.take_zero, List.nil_append, Array.toArray_toList] at this
  rw [← Array.foldl_toList, Array.toList_zipIdx]
  exact this

def numbered : Nat → List Value → List (Nat × Value)
  | _, [] => []
  | k, v :: vs => (k, v) :: numbered (k + 1) vs
def allSz (s : Nat) : List Value → Prop
  | [] => True
  | v :: vs => v.cells.size = s ∧ allSz s vs
def catV : List Value → List Value
  | [] => []
  | v :: vs => v.cells.toList ++ catV vs
theorem setCells : ∀ (l : List Value) (cs : List Value) (k j : Nat), k + j + l.length ≤ cs.length → (l.zipIdx j).foldl (fun (cs : Array Value) (c, j) => cs.setIfInBounds (k + j) c) cs.toArray = (cs.take (k + j) ++ l ++ cs.drop (k + j + l.length)).toArray := by
  intro l
  induction l with
  | nil => intro cs k j hk; simp
  | cons a l ih =>
    intro cs k j hk
    simp only [List.length_cons] at hk
    simp only [List.zipIdx_cons, List.foldl_cons, List.setIfInBounds_toArray]
    rw [ih (cs.set (k + j) a) k (j + 1) (by simp; omega)]
    congr 1
    rw [show k + (j + 1) = k + j + 1 by omega, List.take_add_one, List.getElem?_set_self (by omega), List.take_set, List.set_eq_of_length_le (by simp; omega), List.drop_set]
    rw [if_pos (by omega)]
    simp only [List.length_cons, Option.toList, List.append_assoc, List.cons_append, List.nil_append]
    rw [show k + j + 1 + l.length = k + j + (l.length + 1) by omega]
theorem fill_rows {s : Nat} : ∀ (vs : List Value) (k : Nat) (cs : List Value), allSz s vs → (k + vs.length) * s = cs.length → Instr.fill (fun i => some (i * s, s)) cs.toArray (numbered k vs) = some (cs.take (k * s) ++ catV vs).toArray
  | [], k, cs, _, h => by
    simp only [numbered, Instr.fill, catV, List.append_nil]
    rw [List.take_of_length_le (by simp only [List.length_nil, Nat.add_zero] at h; omega)]
  | v :: vs, k, cs, hv, h => by
    simp only [List.length_cons] at h
    have hvl : v.cells.toList.length = s := by rw [Array.length_toList]; exact hv.1
    have hle : (k + 1) * s ≤ cs.length := by rw [← h]; exact Nat.mul_le_mul_right _ (by omega)
    rw [Nat.succ_mul] at hle
    simp only [numbered, Instr.fill, hv.1, ne_eq, not_true_eq_false, decide_false, Bool.false_or, gt_iff_lt, List.size_toArray]
    rw [if_neg (by simp; omega)]
    have := setCells v.cells.toList cs (k * s) 0 (by rw [hvl]; omega)
    rw [← Array.foldl_toList, Array.toList_zipIdx]
    rw [this, fill_rows vs (k + 1) _ hv.2 (by rw [List.length_append, List.length_append, List.length_take, List.length_drop, hvl]; have : k + 1 + vs.length = k + (vs.length + 1) := by omega
                                              show (k + 1 + vs.length) * s = _; rw [this, h]; omega)]
    congr 2
    rw [catV, Nat.add_zero, ← List.append_assoc]
    congr 1
    rw [Nat.succ_mul, List.take_append_of_le_length (by rw [List.length_append, List.length_take, hvl]; show _ ≤ min _ cs.length + s; omega)]
    rw [List.take_of_length_le (by rw [List.length_append, List.length_take, hvl]; show min _ cs.length + s ≤ _; omega)]
    rw [Nat.add_zero]
theorem RL.buildSliceN {ty m} {xs : List (Nat × Operand)} {vs : List Value} {e s by_} (ht : sliceOf P ty = some (e, s, by_)) (z : Value) (hz : zeroOf P e = some z) (hx : evp F xs = some (numbered 0 vs)) (hv : allSz s vs) (hm : m = vs.length) (hs : Nat.blt 0 s = true) (hm' : Nat.ble (m * s) 16777216 = true) (hm0 : Nat.beq (m * s) 0 = false)
    (hg : gsat ops F g = some true) (hd : inB d n = true)
    (h : ∀ b w', b = w.heap.size → w'.heap.size = b + 1 → Has w' b (catV vs) e → Sub w w' → RL P n ops rest (upd F d (.slice (some ⟨b, 0, none⟩) m m)) w' p) : RL P n ops (⟨d, .buildSlice ty m xs.toArray, t, pos, af, g⟩ :: rest) F w p := by
  refine RL.buildSlice (xs := xs) (vs := numbered 0 vs) (cs := (catV vs).toArray) ht hz hx hm' hm0 ?_ hg hd (fun b w' e1 e2 e3 e4 => h b w' e1 e2 e3 e4)
  have := fill_rows (s := s) vs 0 ((Array.range (m * s)).map (z.cells[· % z.cells.size]!)).toList hv (by rw [hm]; simp)
  rw [Nat.zero_mul, List.take_zero, List.nil_append, Array.toArray_toList] at this
  exact this

def ob : Value → Option Nat := Value.ownBlock
structure Ows (base : Nat) (w : World) (e : TypeId) (sz : Nat) (v : Value) (rows : List (List Value)) : Prop where
  own : w.ownsRow base e sz v rows.length rows.flatten
  len : ∀ r ∈ rows, r.length = sz
theorem Ows.nil (base : Nat) (w : World) (e : TypeId) (sz : Nat) : Ows base w e sz (.slice none 0 0) [] := ⟨⟨by simp, .inl ⟨rfl, rfl⟩⟩, by simp⟩
theorem Ows.form {base w e sz v rows} (h : Ows base w e sz v rows) : ∃ a c, v = .slice a rows.length c ∧ rows.length ≤ c := by
  rcases h.own.2 with ⟨rfl, h0⟩ | ⟨g, cap, cur, rfl, _, _, hc, _⟩
  · exact ⟨none, 0, by rw [h0], by omega⟩
  · exact ⟨_, _, rfl, hc⟩
theorem Ows.step {base w e sz v rows w'} {N : Nat → Prop} (h : Ows base w e sz v rows) (a : Agr N w w') (hn : ∀ k, ob v = some k → ¬ N k) : Ows base w' e sz v rows := by
  refine ⟨⟨h.own.1, ?_⟩, h.len⟩
  rcases h.own.2 with h | ⟨g, cap, cur, rfl, hb, hg, hr⟩
  · exact .inl h
  · refine .inr ⟨g, cap, cur, rfl, hb, ?_, hr⟩
    rw [a.block g ?_ (hn g rfl), hg]
    rcases Nat.lt_or_ge g w.heap.size with q | q
    · exact q
    · rw [Array.getElem?_eq_none q] at hg; cases hg
theorem Ows.sub {base w e sz v rows w'} (h : Ows base w e sz v rows) (s : Sub w w') : Ows base w' e sz v rows := h.step (N := fun _ => False) s.agr (fun _ _ => id)
theorem Ows.sl {base w e sz a m c rows} (h : Ows base w e sz (.slice a m c) rows) : Sl w a sz rows ∧ m = rows.length := by
  rcases h.own.2 with ⟨hv, h0⟩ | ⟨g, cap, cur, hv, hb, hg, hc, hm, hcs, ht⟩
  · cases hv
    have : rows = [] := List.eq_nil_of_length_eq_zero h0
    subst this
    exact ⟨Sl.nil _ _ _, rfl⟩
  · cases hv
    have hh : Has w g (rows.flatten ++ cur.toList.drop (rows.length * sz)) e := by
      unfold Has; rw [hg, ← ht, List.take_append_drop]
    exact ⟨hh.sl h.len, rfl⟩
theorem plain_one {v : Value} (h : plainV v = true) : v.oneCell' = true := by cases v <;> simp_all [plainV, Value.oneCell']

theorem RL.append {ty y x v ax m c e s by_ z base rows news} (ht : sliceOf P ty = some (e, s, by_)) (hz : zeroOf P e = some z) (hzs : z.cells.size = s) (hs : Nat.blt 0 s = true) (hy : XL.ev F y = some v) (hx : XL.ev F x = some (.slice (some ax) m c))
    (hown : Ows base w e s v rows) (hnew : Sl w (some ax) s news) (hm : m = news.length) (hnl : ∀ r ∈ news, r.length = s) (hp : news.all (fun r => r.all plainV) = true) (hlen : (rows.length + m) * by_ ≤ 140737488355328) (hlen' : rows.length + m ≤ 140737488355328) (hbase : base ≤ w.heap.size) (hg : gsat ops F g = some true) (hd : inB d n = true)
    (h : ∀ v' w', Ows base w' e s v' (rows ++ news) → Agr (fun k => ob v = some k) w w' → (ob v' = ob v ∨ ∃ b, ob v' = some b ∧ w.heap.size ≤ b) → RL P n ops rest (upd F d v') w' p) : RL P n ops (⟨d, .call ⟨.builtin .append, #[y, x], #[ty, ty]⟩, t, pos, af, g⟩ :: rest) F w p := by
  have hs' : 0 < s := by simpa using hs
  obtain ⟨h1, i, h2, h3, h4⟩ := sliceOf_spec ht
  obtain ⟨i', hi', hzz⟩ := zeroOf_spec hz
  rw [h2] at hi'; cases hi'
  subst hm
  have hcell : ∀ j u, news.flatten[j]? = some u → w.cell? (ax.add j) = some u := by
    intro j u hj
    have hjl : j < news.length * s := by
      rw [← flat_len news hnl]
      rcases Nat.lt_or_ge j news.flatten.length with q | q
      · exact q
      · rw [List.getElem?_eq_none q] at hj; cases hj
    have hd' : j / s < news.length := (Nat.div_lt_iff_lt_mul hs').2 hjl
    have hmod : j % s < s := Nat.mod_lt _ hs'
    have ej : j = (j / s) * s + j % s := by rw [Nat.mul_comm]; exact (Nat.div_add_mod j s).symm
    obtain ⟨r, hr⟩ : ∃ r, news[j / s]? = some r := ⟨_, List.getElem?_eq_getElem hd'⟩
    have hf := flat_get news hnl (j / s) (j % s) r hr hmod
    rw [← ej, hj] at hf
    have hc := hnew.row (j / s) r hr (j % s) u hf.symm
    simp only [Option.getD_some] at hc
    rw [← hc]
    congr 1
    rw [ej]
    obtain ⟨bb, oo, sp⟩ := ax
    unfold Addr.add
    by_cases q1 : (j / s) * s = 0
    · rw [← ej]
      by_cases q2 : j % s = 0
      · rw [if_pos (by omega), if_pos q1, if_pos q2]
      · rw [if_neg (by omega), if_pos q1, if_neg q2]; simp only; congr 2; omega
    · rw [← ej]
      by_cases q2 : j % s = 0
      · rw [if_neg (by omega), if_neg q1, if_pos q2]; congr 1; omega
      · rw [if_neg (by omega), if_neg q1, if_neg q2]; simp only; congr 1; omega
  have hone : ∀ u ∈ news.flatten, u.oneCell' = true := by
    intro u hu
    obtain ⟨r, hr, hur⟩ := List.mem_flatten.1 hu
    exact plain_one (List.all_eq_true.1 (List.all_eq_true.1 hp r hr) u hur)
  have fin : ∀ v' w', (Builtin.append_ #[ty, ty] t #[v, .slice (some ax) news.length c]).run P w = .ok v' w' → Ows base w' e s v' (rows ++ news) → Agr (fun k => ob v = some k) w w' → (ob v' = ob v ∨ ∃ b, ob v' = some b ∧ w.heap.size ≤ b) →
      RL P n ops (⟨d, .call ⟨.builtin .append, #[y, x], #[ty, ty]⟩, t, pos, af, g⟩ :: rest) F w p := by
    intro v' w' hr ho ha hob
    refine RL.on hg hd (v := v') (w' := w') (fun ρ hρ => ?_) (h v' w' ho ha hob)
    simp only [execOp, resolve, hρ y _ hy, hρ x _ hx, bind, Sem.bind, pure, invoke, builtin, List.map_toArray, List.map_cons, List.map_nil]
    have := run_bind (P := P) (Builtin.append_ #[ty, ty] t #[v, .slice (some ax) news.length c]) (fun v => (Sem.pure (Next.value v) : Sem Next)) w
    rw [hr] at this
    exact this
  have hfl : (rows ++ news).flatten = rows.flatten ++ news.flatten := List.flatten_append
  have hrl : (rows ++ news).length = rows.length + news.length := List.length_append
  have hrl' : ∀ r ∈ rows ++ news, r.length = s := fun r hr => (List.mem_append.1 hr).elim (hown.len r) (hnl r)
  have hfn : news.flatten.length = news.length * s := flat_len news hnl
  have hfo : rows.flatten.length = rows.length * s := flat_len rows hown.len
  have hml : rows.length + news.length ≤ maxLen := by unfold maxLen; omega
  -- in a new block
  have grown : ∀ (old : Nat), old < rows.length + news.length → ∀ w0 : World, w0 = w.drew.alloc (.cells (rows.flatten.toArray ++ news.flatten.toArray ++ Builtin.zeroCells z.cells (grownCap w (rows.length + news.length) old e - (rows.length + news.length))) e) →
      Ows base w0 e s (.slice (some ⟨w.heap.size, 0, none⟩) (rows.length + news.length) (grownCap w (rows.length + news.length) old e)) (rows ++ news) ∧ Agr (fun k => ob v = some k) w w0 := by
    intro old ho w0 hw0
    subst hw0
    have hge := grownCap_ge w (rows.length + news.length) old e
    have hcm := grownCap_le_maxLen w (rows.length + news.length) old e hml
    refine ⟨⟨⟨by rw [hfl, hrl, List.length_append, hfo, hfn, Nat.add_mul], .inr ⟨w.heap.size, _, _, by rw [hrl], hbase, heap_alloc_new w.drew _, by rw [hrl]; exact hge, hcm, ?_, ?_⟩⟩, hrl'⟩, ⟨rfl, rfl, rfl, by simp, fun k hk _ => heap_alloc_old' w.drew _ hk⟩⟩
    · simp only [Array.size_append, List.size_toArray, size_zeroCells, hzs, hfo, hfn, ← Nat.add_mul]
      congr 1
      omega
    · simp only [Array.toList_append, List.append_assoc]
      rw [hrl, hfl, ← List.append_assoc, show (rows.length + news.length) * s = (rows.flatten ++ news.flatten).length by rw [List.length_append, hfo, hfn, Nat.add_mul]]
      exact List.take_left
  rcases hown.own.2 with ⟨rfl, h0⟩ | ⟨gb, cap, cur, rfl, hbg, hgh, hnc, hcm, hcs, htake⟩
  · have hx0 : rows = [] := List.eq_nil_of_length_eq_zero h0
    subst hx0
    by_cases hm0 : news.length = 0
    · have hn : news = [] := List.eq_nil_of_length_eq_zero hm0
      subst hn
      refine fin (.slice none 0 0) w ?_ (Ows.nil _ _ _ _) (Agr.refl _ _) (.inl rfl)
      simp [Builtin.append_, Go.run_underlying h1, sizeOf, typeInfo, h2, Builtin.lenOf, Builtin.firstCells, loadCells, loadCellsFrom]
    · have hr := run_append_nil (P := P) w ty t e i z h1 h2 hzz ax news.length c news.flatten (by rw [hfn, h3]) hcell (by omega) (by omega) (by rw [h4]; simp only [List.length_nil, Nat.zero_add] at hlen; omega)
      have hgr := grown 0 (by simp; omega) _ rfl
      simp only [List.length_nil, Nat.zero_add, List.flatten_nil, Array.empty_append, List.nil_append] at hgr
      exact fin _ _ hr hgr.1 hgr.2 (.inr ⟨_, rfl, Nat.le_refl _⟩)
  · by_cases hroom : rows.length + news.length ≤ cap
    · have hfit : rows.length * i.size + news.flatten.length ≤ cur.size := by rw [hfn, hcs, h3, ← Nat.add_mul]; exact Nat.mul_le_mul_right _ hroom
      have hr := run_append_room (P := P) w ty t e i h1 h2 gb rows.length cap cur hgh ax news.length c news.flatten (by rw [hfn, h3]) hcell hone hroom hfit
      refine fin _ _ hr ⟨⟨by rw [hfl, hrl, List.length_append, hfo, hfn, Nat.add_mul], .inr ⟨gb, cap, _, by rw [hrl], hbg, setRow_heap w gb cur _ e _ hgh, by rw [hrl]; exact hroom, hcm, ?_, ?_⟩⟩, hrl'⟩
        ⟨rfl, rfl, rfl, by simp, fun k _ hk => setRow_other w gb k _ (fun e => hk (by simp [ob, Value.ownBlock, e]))⟩ (.inl rfl)
      · simp only [List.size_toArray, List.length_append, List.length_take, List.length_drop, Array.length_toList]
        omega
      · rw [h3, htake, hrl, hfl, show (rows.length + news.length) * s = (rows.flatten ++ news.flatten).length by rw [List.length_append, hfo, hfn, Nat.add_mul]]
        exact List.take_left
    · have holds : ∀ j u, rows.flatten[j]? = some u → w.cell? ((⟨gb, 0, none⟩ : Addr).add j) = some u := hown.own.cells (g := gb) rfl
      have hr := run_append_grow (P := P) w ty t e i z h1 h2 hzz ⟨gb, 0, none⟩ rows.length cap rows.flatten (by rw [hfo, h3]) holds ax news.length c news.flatten (by rw [hfn, h3]) hcell (by omega) (by omega) (growslice_fits (by omega) (by rw [h4]; exact hlen))
      have hgr := grown cap (by omega) _ rfl
      exact fin _ _ hr hgr.1 hgr.2 (.inr ⟨_, rfl, Nat.le_refl _⟩)
end
def agreeE (F : List (Nat × Value)) : List (Nat × Value) → Prop
  | [] => True
  | (k, v) :: r => look F k = some v ∧ agreeE F r
theorem keep_of {F : List (Nat × Value)} : ∀ {G : List (Nat × Value)}, agreeE F G → ∀ t v, look G t = some v → look F t = some v
  | [], _, t, v, h => by simp [look] at h
  | (k, u) :: r, ⟨h1, h2⟩, t, v, h => by
    rw [look_cons] at h
    by_cases e : k = t
    · subst e; simp at h; subst h; exact h1
    · rw [if_neg e] at h; exact keep_of h2 t v h

theorem wrap_i64 {x : Int} (h : -9223372036854775808 ≤ x ∧ x ≤ 9223372036854775807) : IntKind.i64.wrap x = x := by rw [IntKind.wrap_i64]; omega
theorem wi64 {x y : Int} (h : x = y) (hb : -9223372036854775808 ≤ y ∧ y ≤ 9223372036854775807) : Value.int .i64 (IntKind.i64.wrap x) = .int .i64 y := by rw [h, wrap_i64 hb]
theorem wrap_u64 {x : Int} (h : 0 ≤ x ∧ x ≤ 18446744073709551615) : IntKind.u64.wrap x = x := by rw [IntKind.wrap_u64]; omega
def Val (x : Value) (w : World) : Value → World → Prop := fun v w' => v = x ∧ Sub w w'

section
variable {P : Program} {n : Cx} {F : (List (Nat × Value))} {w : World} {p : Post} {ops : Array Oper} {rest : List Oper} {d : Option Tmp} {o : Op} {t : TypeId} {pos : String} {af : Array Edge} {g : Option (Nat × Bool)}
theorem EvOp.as {v v'} (h : EvOp P F o w v) (e : v = v') : EvOp P F o w v' := e ▸ h
theorem EvOp.min2 {x y k a b ts} (hx : XL.ev F x = some (.int k a)) (hy : XL.ev F y = some (.int k b)) : EvOp P F (.call ⟨.builtin .min, #[x, y], ts⟩) w (.int k (if b < a then b else a)) := fun _ _ _ _ _ ρ hρ w' _ => by
  simp only [execOp, resolve, hρ x _ hx, hρ y _ hy, bind, Sem.bind, pure, invoke, builtin, List.map_toArray, List.map_cons, List.map_nil]
  simp [Builtin.min_, Builtin.min2, bind, Sem.bind, Sem.run, pure]
theorem RC.unroll {c} (k : Nat) (h : RC P n c F w (p.to (Code.rounds P c p.q k))) (hR : n.round = none := by rfl) : RC P n (.loop c) F w p := fun a ka => by
  rw [cwp_none hR]
  refine wp_loop_rounds (k + 1) ?_
  have := h a ka
  rw [cwp_none hR] at this
  rw [rounds_succ, Post.q_to]
  exact this
theorem RC.again {c : Code} {q : Post} {k : Nat} (h : RC P n c F w (q.to (Code.rounds P c q.q k))) (hR : n.round = none := by rfl) : ∀ a, Knows n F a → (q.to (Code.rounds P c q.q (k + 1))).nrm a w := fun a ka => by
  show Code.rounds P c q.q (k + 1) a w
  have := h a ka
  rw [cwp_none hR] at this
  rw [rounds_succ, Post.q_to]
  exact this
theorem EvOp.sliceLH {ty x lo hi_ a m c k i k' u e s by_} (ht : sliceOf P ty = some (e, s, by_)) (hx : XL.ev F x = some (.slice a m c)) (hl : XL.ev F lo = some (.int k i)) (hi : XL.ev F hi_ = some (.int k' u)) (hb : 0 ≤ i ∧ i ≤ u ∧ u ≤ c) :
    EvOp P F (.slice ty x (some lo) (some hi_) none) w (.slice (if c = i.toNat then a else a.map (·.add (i.toNat * s))) (u.toNat - i.toNat) (c - i.toNat)) := fun _ _ _ _ _ ρ hρ w' _ => by
  obtain ⟨h1, j, h2, h3, h4⟩ := sliceOf_spec ht
  simp only [execOp]
  refine run_val _ ?_
  simp only [Instr.sliceAt, hρ x _ hx, Option.map_some, Option.map_none, hρ hi_ _ hi, hρ lo _ hl]
  rw [run_underlying h1]
  simp only [Instr.slice]
  rw [run_underlying h1]
  simp only [Instr.sliceBounds]
  rw [run_bind, run_bind]
  simp only [pure, Sem.run]
  rw [run_bind, run_sliceBound (by omega)]
  simp only []
  rw [run_bind]
  simp only [Option.isSome_none, Bool.false_eq_true, if_false]
  rw [run_sliceBound (by omega)]
  simp only [Sem.run]
  rw [run_sizeOf h2, h3]
  rfl
end
def fitK : Option IntKind → Value → Bool
  | some k, .int k' _ => decide (k = k')
  | none, .bool _ => true
  | _, _ => false
def fitsK : List (Option IntKind) → List Value → Bool
  | [], [] => true
  | k :: ks, v :: vs => fitK k v && fitsK ks vs
  | _, _ => false
def eq1 : Value → Value → Bool
  | .int _ a, .int _ b => a == b
  | .bool a, .bool b => a == b
  | _, _ => false
def eqL : List Value → List Value → Bool
  | [], [] => true
  | a :: xs, b :: ys => eq1 a b && eqL xs ys
  | _, _ => false

def fieldsK (P : Program) (k : TypeId → Option (List (Option IntKind))) : Nat → List Field → Option (List (Option IntKind))
  | _, [] => some []
  | o, f :: fs =>
    if f.name = "_" ∨ f.offset ≠ o then none
    else match k f.type with
      | none => none
      | some l => match shapeOf P f.type with
        | none => none
        | some (_, s) => if s ≠ l.length then none else match fieldsK P k (o + s) fs with | none => none | some r => some (l ++ r)
def flatK (P : Program) : Nat → TypeId → Option (List (Option IntKind))
  | 0, _ => none
  | d + 1, t =>
    match P.underlying t with
    | some (.int k) => some [some k]
    | some .bool => some [none]
    | some (.struct fs) => if P.stoodInHeld t then none else fieldsK P (flatK P d) 0 fs.toList
    | some (.array n e) => match flatK P d e with
      | none => none
      | some l => match shapeOf P e with
        | none => none
        | some (_, s) => if s ≠ l.length then none else some (List.replicate n l).flatten
    | _ => none

theorem fitsK_len : ∀ {ks vs}, fitsK ks vs = true → ks.length = vs.length
  | [], [], _ => rfl
  | k :: ks, v :: vs, h => by simp only [fitsK, Bool.and_eq_true] at h; simp [fitsK_len h.2]
  | [], _ :: _, h => by simp [fitsK] at h
  | _ :: _, [], h => by simp [fitsK] at h
theorem fits1 {k xs} (h : fitsK [k] xs = true) : ∃ v, xs = [v] ∧ fitK k v = true := by
  cases xs with
  | nil => simp [fitsK] at h
  | cons v r => cases r with
    | nil => exact ⟨v, rfl, by simpa [fitsK] using h⟩
    | cons a b => simp [fitsK] at h
theorem fits_int {k xs} (h : fitsK [some k] xs = true) : ∃ x, xs = [.int k x] := by
  obtain ⟨v, rfl, h2⟩ := fits1 h
  clear h
  cases v with
  | int k' x => simp [fitK] at h2; subst h2; exact ⟨_, rfl⟩
  | _ => exact absurd h2 (by simp [fitK])
theorem fits_bool {xs} (h : fitsK [none] xs = true) : ∃ x, xs = [.bool x] := by
  obtain ⟨v, rfl, h2⟩ := fits1 h
  clear h
  cases v with
  | bool b => exact ⟨_, rfl⟩
  | _ => exact absurd h2 (by simp [fitK])
theorem fitsK_app : ∀ {ks ks' vs}, fitsK (ks ++ ks') vs = true → fitsK ks (vs.take ks.length) = true ∧ fitsK ks' (vs.drop ks.length) = true
  | [], ks', vs, h => by simpa [fitsK] using h
  | k :: ks, ks', [], h => by simp [fitsK] at h
  | k :: ks, ks', v :: vs, h => by
    simp only [List.cons_append, fitsK, Bool.and_eq_true] at h
    have := fitsK_app h.2
    simp [fitsK, h.1, this]
theorem eqL_app : ∀ (n : Nat) {xs ys}, xs.length = ys.length → eqL xs ys = (eqL (xs.take n) (ys.take n) && eqL (xs.drop n) (ys.drop n))
  | 0, xs, ys, _ => by simp [eqL]
  | n + 1, [], [], _ => by simp [eqL]
  | n + 1, a :: xs, b :: ys, h => by
    simp only [List.take_succ_cons, List.drop_succ_cons, eqL]
    rw [eqL_app n (by simpa using h), Bool.and_assoc]
  | n + 1, [], _ :: _, h => by simp at h
  | n + 1, _ :: _, [], h => by simp at h

def valOf (agg : Bool) (cs : List Value) : Value := if agg then .agg cs.toArray else cs.headD undef

section
variable {P : Program} {w : World}
theorem run_part {t b s} (hs : shapeOf P t = some (b, s)) (cs : List Value) (o : Nat) (h : o + s ≤ cs.length) (h1 : b = false → s = 1) : (part t cs.toArray o).run P w = .ok (valOf b ((cs.drop o).take s)) w := by
  obtain ⟨d, i, hd, hi, hb, hz⟩ := shapeOf_spec hs
  rw [part, run_isAgg hd, hb]
  cases b with
  | true =>
    simp only [if_true]
    rw [run_sizeOf hi, hz]
    simp only [pure, Sem.run, valOf, if_true]
    congr 2
    apply Array.ext'
    simp [List.take_drop]
  | false =>
    have := h1 rfl
    subst this
    have hlt : o < cs.length := by omega
    simp only [Bool.false_eq_true, if_false, List.getElem?_toArray, List.getElem?_eq_getElem hlt, valOf]
    rw [List.drop_eq_getElem_cons hlt]
    rfl

theorem flatK_one {k t l s} (h : flatK P k t = some l) (hs : shapeOf P t = some (false, s)) (hl : s = l.length) : s = 1 := by
  obtain ⟨de, i, hd, hi, hbb, hz⟩ := shapeOf_spec hs
  cases k with
  | zero => simp [flatK] at h
  | succ k =>
    rw [flatK, hd] at h
    cases de with
    | int kd => simp at h; subst h; simpa using hl
    | bool => simp at h; subst h; simpa using hl
    | struct fs => cases hbb
    | array n e => cases hbb
    | _ => simp at h
def EqAt (P : Program) (w : World) (k d : Nat) : Prop :=
  ∀ (t : TypeId) (ks : List (Option IntKind)) (b : Bool) (s : Nat) (xs ys : List Value), flatK P k t = some ks → shapeOf P t = some (b, s) → s = ks.length → fitsK ks xs = true → fitsK ks ys = true →
    (Op.equalIn (d + k) t (valOf b xs) (valOf b ys)).run P w = .ok (eqL xs ys) w
theorem run_fields {k d : Nat} (IH : EqAt P w k d) (X Y : List Value) : ∀ (fs : List Field) (o : Nat) (ks : List (Option IntKind)), fieldsK P (flatK P k) o fs = some ks → fitsK ks (X.drop o) = true → fitsK ks (Y.drop o) = true →
    (forIn fs ((none, ()) : Option Bool × Unit) (fun f __s =>
            if f.name ≠ "_" then
              (part f.type X.toArray f.offset).bind fun a =>
                (part f.type Y.toArray f.offset).bind fun b =>
                  (Op.equalIn (d + k) f.type a b).bind fun r =>
                    if (!r) = true then pure (ForInStep.done (some false, ()))
                    else pure (ForInStep.yield (none, ()))
            else pure (ForInStep.yield (none, ()))) : Sem _).run P w = .ok (if eqL (X.drop o) (Y.drop o) then (none, ()) else (some false, ())) w
  | [], o, ks, h, hx, hy => by
    simp only [fieldsK, Option.some.injEq] at h
    subst h
    have h1 := fitsK_len hx
    have h2 := fitsK_len hy
    have e1 : X.drop o = [] := List.eq_nil_of_length_eq_zero h1.symm
    have e2 : Y.drop o = [] := List.eq_nil_of_length_eq_zero h2.symm
    rw [e1, e2]
    rfl
  | f :: fs, o, ks, h, hx, hy => by
    simp only [fieldsK] at h
    split at h
    · cases h
    · rename_i hno
      have hname : f.name ≠ "_" := fun e => hno (.inl e)
      have hoff : f.offset = o := Decidable.byContradiction fun e => hno (.inr e)
      split at h
      · cases h
      · rename_i l hl
        split at h
        · cases h
        · rename_i b s hs
          split at h
          · cases h
          · rename_i hsl
            have hsl' : s = l.length := Decidable.byContradiction hsl
            split at h
            · cases h
            · rename_i r hr
              cases h
              obtain ⟨hx1, hx2⟩ := fitsK_app hx
              obtain ⟨hy1, hy2⟩ := fitsK_app hy
              rw [List.drop_drop] at hx2 hy2
              have lx := fitsK_len hx
              have ly := fitsK_len hy
              simp only [List.length_append, List.length_drop] at lx ly
              have one : b = false → s = 1 := fun e => by subst e; exact flatK_one hl hs hsl'
              have px : o + s ≤ X.length ∨ s = 0 := by omega
              have ih := run_fields IH X Y fs (o + s) r hr (by rw [hsl']; exact hx2) (by rw [hsl']; exact hy2)
              rw [List.forIn_cons, run_bind]
              have hbx : (part f.type X.toArray f.offset).run P w = .ok (valOf b ((X.drop o).take s)) w := by
                rw [hoff]
                by_cases e0 : s = 0
                · cases b with
                  | false => have := one rfl; omega
                  | true =>
                    obtain ⟨dd, i', g1, g2, g3, g4⟩ := shapeOf_spec hs
                    rw [part, run_isAgg g1, g3]
                    simp only [if_true]
                    rw [run_sizeOf g2, g4, e0]
                    simp only [pure, Sem.run, valOf, if_true]
                    congr 2
                    apply Array.ext'
                    simp
                · exact run_part hs X o (by omega) one
              have hby : (part f.type Y.toArray f.offset).run P w = .ok (valOf b ((Y.drop o).take s)) w := by
                rw [hoff]
                by_cases e0 : s = 0
                · cases b with
                  | false => have := one rfl; omega
                  | true =>
                    obtain ⟨dd, i', g1, g2, g3, g4⟩ := shapeOf_spec hs
                    rw [part, run_isAgg g1, g3]
                    simp only [if_true]
                    rw [run_sizeOf g2, g4, e0]
                    simp only [pure, Sem.run, valOf, if_true]
                    congr 2
                    apply Array.ext'
                    simp
                · exact run_part hs Y o (by omega) one
              have hq := IH f.type l b s ((X.drop o).take s) ((Y.drop o).take s) hl hs hsl' (by rw [hsl']; exact hx1) (by rw [hsl']; exact hy1)
              have hlen : (X.drop o).length = (Y.drop o).length := by rw [← fitsK_len hx, ← fitsK_len hy]
              rw [eqL_app s hlen, List.drop_drop, List.drop_drop]
              simp only [ne_eq, hname, not_false_eq_true, if_true]
              have hbody : ((part f.type X.toArray f.offset).bind fun a => (part f.type Y.toArray f.offset).bind fun b => (Op.equalIn (d + k) f.type a b).bind fun r => if (!r) = true then (pure (ForInStep.done ((some false, ()) : Option Bool × Unit)) : Sem _) else pure (ForInStep.yield (none, ()))).run P w
                  = .ok (if eqL ((X.drop o).take s) ((Y.drop o).take s) then ForInStep.yield (none, ()) else ForInStep.done (some false, ())) w := by
                have e1 := run_bind (P := P) (part f.type X.toArray f.offset) (fun a => (part f.type Y.toArray f.offset).bind fun b => (Op.equalIn (d + k) f.type a b).bind fun r => if (!r) = true then (pure (ForInStep.done ((some false, ()) : Option Bool × Unit)) : Sem _) else pure (ForInStep.yield (none, ()))) w
                rw [hbx] at e1
                have e2 := run_bind (P := P) (part f.type Y.toArray f.offset) (fun b' => (Op.equalIn (d + k) f.type (valOf b ((X.drop o).take s)) b').bind fun r => if (!r) = true then (pure (ForInStep.done ((some false, ()) : Option Bool × Unit)) : Sem _) else pure (ForInStep.yield (none, ()))) w
                rw [hby] at e2
                have e3 := run_bind (P := P) (Op.equalIn (d + k) f.type (valOf b ((X.drop o).take s)) (valOf b ((Y.drop o).take s))) (fun r => if (!r) = true then (pure (ForInStep.done ((some false, ()) : Option Bool × Unit)) : Sem _) else pure (ForInStep.yield (none, ()))) w
                rw [hq] at e3
                refine e1.trans (e2.trans (e3.trans ?_))
                cases eqL ((X.drop o).take s) ((Y.drop o).take s) <;> rfl
              rw [hbody]
              cases hc : eqL ((X.drop o).take s) ((Y.drop o).take s) with
              | true => simp only [if_true, Bool.true_and]; exact ih
              | false => simp [Sem.run, pure]
theorem fits_split {l : List (Option IntKind)} {n : Nat} {X : List Value} (h : fitsK (List.replicate (n + 1) l).flatten X = true) : fitsK l (X.take l.length) = true ∧ fitsK (List.replicate n l).flatten (X.drop l.length) = true := by
  rw [List.replicate_succ, List.flatten_cons] at h
  exact fitsK_app h
theorem run_elems {k d : Nat} (IH : EqAt P w k d) {e : TypeId} {l : List (Option IntKind)} {b : Bool} {s : Nat} (hl : flatK P k e = some l) (hs : shapeOf P e = some (b, s)) (hsl : s = l.length) (one : b = false → s = 1) (X Y : List Value) :
    ∀ (n i : Nat), fitsK (List.replicate n l).flatten (X.drop (i * s)) = true → fitsK (List.replicate n l).flatten (Y.drop (i * s)) = true →
    (forIn (List.range' i n 1) ((none, ()) : Option Bool × Unit) (fun i __s => do
              let a ← part e X.toArray (i * s)
              let b ← part e Y.toArray (i * s)
              let r ← Op.equalIn (d + k) e a b
              if (!r) = true then pure (ForInStep.done (some false, ())) else pure (ForInStep.yield (none, ()))) : Sem _).run P w = .ok (if eqL (X.drop (i * s)) (Y.drop (i * s)) then (none, ()) else (some false, ())) w
  | 0, i, hx, hy => by
    have e1 : X.drop (i * s) = [] := List.eq_nil_of_length_eq_zero (by rw [← fitsK_len hx]; rfl)
    have e2 : Y.drop (i * s) = [] := List.eq_nil_of_length_eq_zero (by rw [← fitsK_len hy]; rfl)
    rw [e1, e2]
    rfl
  | n + 1, i, hx, hy => by
    obtain ⟨hx1, hx2⟩ := fits_split hx
    obtain ⟨hy1, hy2⟩ := fits_split hy
    rw [← hsl] at hx1 hx2 hy1 hy2
    rw [List.drop_drop] at hx2 hy2
    have es : i * s + s = (i + 1) * s := (Nat.succ_mul _ _).symm
    rw [es] at hx2 hy2
    have ih := run_elems IH hl hs hsl one X Y n (i + 1) hx2 hy2
    have lx := fitsK_len hx1
    have ly := fitsK_len hy1
    simp only [List.length_take, List.length_drop] at lx ly
    have hpart : ∀ Z : List Value, fitsK l ((Z.drop (i * s)).take s) = true → (part e Z.toArray (i * s)).run P w = .ok (valOf b ((Z.drop (i * s)).take s)) w := by
      intro Z hz
      have lz := fitsK_len hz
      simp only [List.length_take, List.length_drop] at lz
      by_cases e0 : s = 0
      · cases b with
        | false => have := one rfl; omega
        | true =>
          obtain ⟨dd, i', g1, g2, g3, g4⟩ := shapeOf_spec hs
          rw [part, run_isAgg g1, g3]
          simp only [if_true]
          rw [run_sizeOf g2, g4, e0]
          simp only [pure, Sem.run, valOf, if_true]
          congr 2
          apply Array.ext'
          simp
      · exact run_part hs Z (i * s) (by omega) one
    rw [List.range'_succ, List.forIn_cons, run_bind, run_bind, hpart X hx1]
    simp only []
    rw [run_bind, hpart Y hy1]
    simp only []
    rw [run_bind, IH e l b s _ _ hl hs hsl hx1 hy1]
    have hlen : (X.drop (i * s)).length = (Y.drop (i * s)).length := by rw [← fitsK_len hx, ← fitsK_len hy]
    rw [eqL_app s hlen, List.drop_drop, List.drop_drop, es]
    cases hc : eqL ((X.drop (i * s)).take s) ((Y.drop (i * s)).take s) with
    | true => simp only [Bool.not_true, Bool.false_eq_true, if_false, Bool.true_and, pure, Sem.run]; exact ih
    | false => simp [Sem.run, pure]
end
section
variable {P : Program} {w : World}
theorem run_equalIn : ∀ (k d : Nat), EqAt P w k d
  | 0, d => fun t ks b s xs ys h _ _ _ _ => by simp [flatK] at h
  | k + 1, d => fun t ks b s xs ys h hs hl ha hb => by
    have ih := run_equalIn k d
    obtain ⟨de, i, hd, hi, hbb, hz⟩ := shapeOf_spec hs
    rw [flatK, hd] at h
    rw [show d + (k + 1) = (d + k) + 1 by omega, Op.equalIn, run_underlying hd]
    cases de with
    | int kd =>
      simp only [Option.some.injEq] at h
      subst h
      have hb' : b = false := by rw [← hbb]; rfl
      subst hb'
      obtain ⟨x, rfl⟩ := fits_int ha
      obtain ⟨y, rfl⟩ := fits_int hb
      simp [valOf, eqL, eq1, pure, Sem.run]
    | bool =>
      simp only [Option.some.injEq] at h
      subst h
      have hb' : b = false := by rw [← hbb]; rfl
      subst hb'
      obtain ⟨x, rfl⟩ := fits_bool ha
      obtain ⟨y, rfl⟩ := fits_bool hb
      simp [valOf, eqL, eq1, pure, Sem.run]
    | struct fs =>
      have hb' : b = true := by rw [← hbb]; rfl
      subst hb'
      simp only [] at h
      split at h
      · cases h
      · rename_i hst
        have hst' : P.stoodInHeld t = false := by simpa using hst
        simp only [valOf, if_true, bind, Sem.bind, program, Sem.run, hst', Bool.false_eq_true, if_false]
        rw [← Array.forIn_toList]
        have := run_fields (ih) xs ys fs.toList 0 ks h (by simpa using ha) (by simpa using hb)
        simp only [List.drop_zero] at this
        refine (run_bind (P := P) _ _ w).trans ?_
        generalize hg : (forIn fs.toList ((none, ()) : Option Bool × Unit) _ : Sem _) = A
        have hA : A.run P w = .ok (if eqL xs ys then (none, ()) else (some false, ())) w := by
          rw [← hg]
          exact this
        rw [hA]
        cases eqL xs ys <;> rfl
    | array n e =>
      have hb' : b = true := by rw [← hbb]; rfl
      subst hb'
      simp only [] at h
      split at h
      · cases h
      · rename_i l hl'
        split at h
        · cases h
        · rename_i be se hse
          split at h
          · cases h
          · rename_i hsl
            have hsl' : se = l.length := Decidable.byContradiction hsl
            cases h
            obtain ⟨dd, i', g1, g2, g3, g4⟩ := shapeOf_spec hse
            simp only [valOf, if_true]
            rw [run_sizeOf g2, g4]
            have one : be = false → se = 1 := fun e' => by subst e'; exact flatK_one hl' hse hsl'
            have := run_elems ih hl' hse hsl' one xs ys n 0 (by simpa using ha) (by simpa using hb)
            simp only [Nat.zero_mul, List.drop_zero] at this
            refine (run_bind (P := P) _ _ w).trans ?_
            rw [Std.Legacy.Range.forIn_eq_forIn_range', show (Std.Legacy.Range.size [:n]) = n from by simp [Std.Legacy.Range.size]]
            generalize hg : (forIn (List.range' _ n _) ((none, ()) : Option Bool × Unit) _ : Sem _) = A
            have hA : A.run P w = .ok (if eqL xs ys then (none, ()) else (some false, ())) w := by
              rw [← hg]
              exact this
            rw [hA]
            cases eqL xs ys <;> rfl
    | _ => simp at h
theorem run_equal_flat {t ks s xs ys} (hk : flatK P 6 t = some ks) (hs : shapeOf P t = some (true, s)) (hl : s = ks.length) (ha : fitsK ks xs = true) (hb : fitsK ks ys = true) :
    (Op.equal t (.agg xs.toArray) (.agg ys.toArray)).run P w = .ok (eqL xs ys) w := run_equalIn 6 9994 t ks true s xs ys hk hs hl ha hb
end
section
variable {P : Program} {n : Cx} {F : (List (Nat × Value))} {w : World}
theorem run_eqGuard_flat {op : BinOp} {t : TypeId} {x y : Operand} {xs ys : Array Value} {w : World} (h : P.eqGuardType P.depth t = false) : (eqGuard op t x y (.agg xs) (.agg ys)).run P w = .ok () w := by
  unfold eqGuard
  cases op <;> simp [program, bind, Sem.bind, Sem.run, h, pure]
theorem EvOp.eqS {x y xs ys tx ty ks s} (hk : flatK P 6 tx = some ks) (hg : P.eqGuardType P.depth tx = false) (hs : shapeOf P tx = some (true, s)) (hl : s = ks.length) (hx : XL.ev F x = some (.agg xs.toArray)) (hy : XL.ev F y = some (.agg ys.toArray)) (ha : fitsK ks xs = true) (hb : fitsK ks ys = true) :
    EvOp P F (.binOp .eql tx x y ty) w (.bool (eqL xs ys)) := fun _ _ _ _ _ ρ hρ w' _ => by
  simp only [execOp, hρ x _ hx, hρ y _ hy]
  refine run_val _ ?_
  rw [run_bind, run_eqGuard_flat hg]
  show (Op.equal tx (.agg xs.toArray) (.agg ys.toArray) >>= fun b => (Sem.pure (Value.bool b) : Sem Value)).run P w' = _
  rw [run_bind, run_equal_flat hk hs hl ha hb]
  rfl
theorem EvOp.neS {x y xs ys tx ty ks s} (hk : flatK P 6 tx = some ks) (hg : P.eqGuardType P.depth tx = false) (hs : shapeOf P tx = some (true, s)) (hl : s = ks.length) (hx : XL.ev F x = some (.agg xs.toArray)) (hy : XL.ev F y = some (.agg ys.toArray)) (ha : fitsK ks xs = true) (hb : fitsK ks ys = true) :
    EvOp P F (.binOp .neq tx x y ty) w (.bool (!eqL xs ys)) := fun _ _ _ _ _ ρ hρ w' _ => by
  simp only [execOp, hρ x _ hx, hρ y _ hy]
  refine run_val _ ?_
  rw [run_bind, run_eqGuard_flat hg]
  show (Op.equal tx (.agg xs.toArray) (.agg ys.toArray) >>= fun b => (Sem.pure (Value.bool !b) : Sem Value)).run P w' = _
  rw [run_bind, run_equal_flat hk hs hl ha hb]
  rfl
end
section
variable {P : Program} {n : Cx} {F : (List (Nat × Value))} {w : World} {p : Post} {ops : Array Oper} {rest : List Oper} {d : Option Tmp} {o : Op} {t : TypeId} {pos : String} {af : Array Edge} {g : Option (Nat × Bool)}
theorem EvOp.eqNil {x a m c tx ty e s by_} (ht : sliceOf P tx = some (e, s, by_)) (hx : XL.ev F x = some (.slice a m c)) : EvOp P F (.binOp .eql tx x (.const (.slice none 0 0)) ty) w (.bool a.isNone) := fun _ _ _ _ _ ρ hρ w' _ => by
  have h0 : ρ (.const (.slice none 0 0)) = .slice none 0 0 := hρ _ _ rfl
  simp only [execOp, hρ x _ hx, h0]
  refine run_val _ ?_
  show (Op.equal tx (.slice a m c) (.slice none 0 0) >>= fun b => (Sem.pure (Value.bool b) : Sem Value)).run P w' = _
  have : (Op.equal tx (.slice a m c) (.slice none 0 0)).run P w' = .ok a.isNone w' := by
    show (Op.equalIn (9999 + 1) tx (.slice a m c) (.slice none 0 0)).run P w' = _
    rw [Op.equalIn, run_underlying (sliceOf_spec ht).1]
    cases a <;> rfl
  rw [run_bind, this]
  rfl

theorem RL.buildSlice0 {ty e s by_} (ht : sliceOf P ty = some (e, s, by_)) (hg : gsat ops F g = some true) (hd : inB d n = true)
    (h : ∀ b w', b = w.heap.size → w'.heap.size = b + 1 → Has w' b [] e → Sub w w' → RL P n ops rest (upd F d (.slice (some ⟨b, 0, none⟩) 0 0)) w' p) : RL P n ops (⟨d, .buildSlice ty 0 #[], t, pos, af, g⟩ :: rest) F w p := by
  refine RL.on hg hd (w' := wnew w (.cells #[] e)) (fun ρ hρ => ?_) (h _ _ rfl (wnew_size _ _) (wnew_has _ _ _) (wnew_sub _ _))
  obtain ⟨h1, j, h2, h3, h4⟩ := sliceOf_spec ht
  simp only [execOp]
  refine run_val _ ?_
  rw [Instr.buildSlice, run_underlying h1]
  simp only []
  rw [run_sizeOf h2, h3, if_neg (by omega), if_pos (by omega)]
  simp only [pure, bind, Sem.bind, Array.map_empty, Instr.fill, Nat.zero_mul]
  have h0 : (Array.range 0).map (fun x => (#[] : Array Value)[x % (#[] : Array Value).size]!) = #[] := by simp [Array.range_zero']
  rw [h0]
  have := run_bind (P := P) (newRow e #[]) (fun a => (Sem.pure (Value.slice (some a) 0 0) : Sem Value)) w
  rw [run_newRow] at this
  exact this
end
theorem Ows.lit0 {base : Nat} {w : World} {b e sz} (h : Has w b [] e) (hb : base ≤ b) : Ows base w e sz (.slice (some ⟨b, 0, none⟩) 0 0) [] :=
  ⟨⟨by simp, .inr ⟨b, 0, #[], rfl, hb, h, Nat.le_refl _, by decide, by simp, by simp⟩⟩, by simp⟩
theorem Ows.has {base w e sz v rows} (h : Ows base w e sz v rows) (hne : 0 < rows.length) : ∃ b cap extra, v = .slice (some ⟨b, 0, none⟩) rows.length cap ∧ base ≤ b ∧ rows.length ≤ cap ∧ cap ≤ maxLen ∧ Has w b (rows.flatten ++ extra) e ∧ (rows.flatten ++ extra).length = cap * sz := by
  rcases h.own.2 with ⟨_, h0⟩ | ⟨g, cap, cur, rfl, hb, hg, hc, hm, hcs, ht⟩
  · omega
  · refine ⟨g, cap, cur.toList.drop (rows.length * sz), rfl, hb, hc, hm, ?_, ?_⟩
    · unfold Has; rw [hg, ← ht, List.take_append_drop]
    · rw [← ht, List.take_append_drop]; simpa using hcs
theorem Ows.of_has {base w e sz b cap rows} {extra : List Value} (h : Has w b (rows.flatten ++ extra) e) (hl : ∀ r ∈ rows, r.length = sz) (hb : base ≤ b) (hc : rows.length ≤ cap) (hm : cap ≤ maxLen) (hx : (rows.flatten ++ extra).length = cap * sz) : Ows base w e sz (.slice (some ⟨b, 0, none⟩) rows.length cap) rows := by
  refine ⟨⟨flat_len rows hl, .inr ⟨b, cap, _, rfl, hb, h, hc, hm, by simpa using hx, ?_⟩⟩, hl⟩
  simp only []
  rw [← flat_len rows hl]
  exact List.take_left
theorem splice_left {xs ys : List Value} {o : Nat} {r : List Value} (h : o + r.length ≤ xs.length) : splice (xs ++ ys) o r = splice xs o r ++ ys := by
  apply List.ext_getElem?
  intro k
  rw [splice_get, List.length_append]
  by_cases hk : k < xs.length
  · rw [if_pos (by omega), List.getElem?_append_left hk, List.getElem?_append_left (l₁ := splice xs o r) (by rw [splice_length]; exact hk), splice_get, if_pos hk]
  · rw [if_neg (by omega : ¬ (o ≤ k ∧ k < o + r.length)), List.getElem?_append_right (by omega), List.getElem?_append_right (l₁ := splice xs o r) (by rw [splice_length]; omega), splice_length]
    by_cases h2 : k < xs.length + ys.length
    · rw [if_pos h2]
    · rw [if_neg h2, List.getElem?_eq_none (by omega)]
theorem Has.row_set {w b e sz} {rows : List (List Value)} {extra r : List Value} {i : Nat} (h : Has w b (splice (rows.flatten ++ extra) (i * sz) r) e) (hl : ∀ r ∈ rows, r.length = sz) (hi : i < rows.length) (hr : r.length = sz) : Has w b ((rows.set i r).flatten ++ extra) e := by
  have hle : (i + 1) * sz ≤ rows.length * sz := Nat.mul_le_mul_right _ hi
  rw [Nat.succ_mul] at hle
  rwa [splice_left (by rw [flat_len rows hl]; omega), flat_set rows hl i hi r hr] at h

theorem flat_map1 {α : Type} (enc : α → Value) (l : List α) : (l.map fun x => [enc x]).flatten = l.map enc := by
  induction l with
  | nil => rfl
  | cons v l ih => simp [ih]
theorem Has.sl1 {α : Type} {enc : α → Value} {l : List α} {w b e} (h : Has w b (l.map enc) e) : Sl w (some ⟨b, 0, none⟩) 1 (l.map fun x => [enc x]) :=
  Has.sl0 (by rw [flat_map1]; exact h) (by intro r hr; obtain ⟨x, _, rfl⟩ := List.mem_map.1 hr; rfl)
theorem Has.slOne {w b e} {cs : List Value} (h : Has w b cs e) : Sl w (some ⟨b, 0, none⟩) cs.length [cs] :=
  Has.sl0 (rows := [cs]) (by simpa using h) (by intro r hr; rw [List.mem_singleton] at hr; subst hr; rfl)
theorem splice_all : ∀ (cs vs : List Value), cs.length = vs.length → splice cs 0 vs = vs := by
  intro cs vs h
  apply List.ext_getElem?
  intro k
  rw [splice_get]
  by_cases hk : k < cs.length
  · rw [if_pos hk, if_pos (by omega), Nat.sub_zero]
  · rw [if_neg hk, List.getElem?_eq_none (by omega)]
theorem Has.now {w b e} {cs vs : List Value} (h : Has w b (splice cs 0 vs) e) (hl : cs.length = vs.length) : Has w b vs e := by
  rwa [splice_all cs vs hl] at h
section
variable {P : Program} {n : Cx} {F : (List (Nat × Value))} {w : World}
theorem EvOp.nilCheck {x a} (hx : XL.ev F x = some (.pointer (some a))) : EvOp P F (.nilCheck x) w (.pointer (some a)) := fun _ _ _ _ _ ρ hρ w' _ => by
  simp only [execOp, hρ x _ hx]; rfl
theorem EvOp.indexO {ty x ix b o m c k i e s by_} (ht : sliceOf P ty = some (e, s, by_)) (hx : XL.ev F x = some (.slice (some ⟨b, o, none⟩) m c)) (hi : XL.ev F ix = some (.int k i)) (h : 0 ≤ i ∧ i < m) : EvOp P F (.indexAddr ty x ix) w (.pointer (some ⟨b, o + i.toNat * s, none⟩)) :=
  EvOp.as (EvOp.indexA ht hx hi h) (by rw [add_lit])
end
section
variable {P : Program} {ops : Array Oper} {Q : Exit → Act → World → Prop}
theorem wpOp_putA {j : Nat} {oi oj : Oper} {v : Value} (hj : ops[j]? = some oj) (hap : oi.apart ops oj = true)
    (hsi : ∀ cs b, oi.op ≠ .select cs b) (hsj : ∀ cs b, oj.op ≠ .select cs b)
    (hQ : ∀ c a w, Q (.panic c) (a.put oi.dst v) w → Q (.panic c) a w) {K : Act → World → Prop} {a : Act} {w : World} {X : Sem Next} {B : Bool}
    (E : execOp a.eval oi = X) (W : Region.wanted oi (yielded ops a.tmps) = B) (h : wpOp P ops Q j K (a.put oi.dst v) w) :
    wpOp P ops Q j (fun a' w' => (execOp a'.eval oi = X ∧ Region.wanted oi (yielded ops a'.tmps) = B) ∧ K (a'.put oi.dst v) w') a w := by
  obtain ⟨h1, h2, h3⟩ := Oper.apart_spec hap
  have keep : ∀ u, execOp (a.put oj.dst u).eval oi = X ∧ Region.wanted oi (yielded ops (a.put oj.dst u).tmps) = B := fun u =>
    ⟨(execOp_put oi hsi a oj.dst u h3).trans E, (wanted_put oi a oj.dst u h3).trans W⟩
  have keepD : ∀ d u, execOp (Act.put { a with defers := d :: a.defers } oj.dst u).eval oi = X ∧ Region.wanted oi (yielded ops (Act.put { a with defers := d :: a.defers } oj.dst u).tmps) = B := fun d u =>
    ⟨(execOp_put oi hsi { a with defers := d :: a.defers } oj.dst u h3).trans E, (wanted_put oi { a with defers := d :: a.defers } oj.dst u h3).trans W⟩
  unfold wpOp at *
  simp only [hj] at *
  rw [wanted_put oj a oi.dst v h1] at h
  split
  · rename_i hw
    simp only [hw, if_true] at h
    rcases h with h | ⟨hasks, hlets⟩
    case inr => exact .inr ⟨by unfold Oper.asks at *; rw [execOp_put oj hsj a oi.dst v h1] at hasks; exact hasks, hlets⟩
    refine .inl ?_
    unfold Oper.wp at *
    rw [execOp_put oj hsj a oi.dst v h1] at h
    generalize (execOp a.eval oj).run P w = r at *
    cases r with
    | ok n w' =>
      cases n <;> simp only [Oper.upon] at h ⊢
      case value u => exact ⟨keep u, by rw [← Act.put_comm a v u h2]; exact h⟩
      case skip => exact ⟨keep _, by rw [← Act.put_comm a v undef h2]; exact h⟩
      case defer d =>
        refine ⟨keepD d _, ?_⟩
        rw [← Act.put_comm _ v undef h2, ← Act.put_defers]
        exact h
      case enter f args =>
        refine Calls.mono h fun e w'' he => ?_
        cases e with
        | returned u => exact ⟨keep u, by rw [← Act.put_comm a v u h2]; exact he⟩
        | panicked c => exact hQ _ _ _ he
        | outgrown => exact he
      case row row args => exact Rows.mono h fun u w'' he => ⟨keep u, by rw [← Act.put_comm a v u h2]; exact he⟩
    | halt x w' =>
      cases x <;> simp only [Oper.upon] at h ⊢
      case panic u => exact hQ _ _ _ h
  · rename_i hw
    simp only [hw] at h
    exact ⟨keep _, by rw [← Act.put_comm a v undef h2]; exact h⟩

def WA (P : Program) (ops : Array Oper) (Q : Exit → Act → World → Prop) (M : Nat → Nat → Prop) : Nat → Array Bool → Act → World → Prop
  | 0, L, a, w => Region.ready .any ops L = [] ∧ Q .normal a w
  | f + 1, L, a, w => (Region.ready .any ops L = [] → Q .normal a w) ∧
    ∀ i ∈ Region.ready .any ops L, wpOp P ops Q i (fun a' w' => Agr (M i) w w' ∧ WA P ops Q M f (L.setIfInBounds i true) a' w') a w

theorem WA.any {M : Nat → Nat → Prop} : ∀ (f : Nat) (L : Array Bool) (a : Act) (w : World), WA P ops Q M f L a w → wpAny P .any ops Q f L a w
  | 0, _, _, _, h => h
  | f + 1, L, a, w, h => ⟨h.1, fun i hi => wpOp_mono (fun a' w' hk => WA.any f _ a' w' hk.2) (h.2 i hi)⟩

theorem WA.first {M : Nat → Nat → Prop} {N : Nat → Prop} {i : Nat} {oi : Oper} {v : Value} {X : Sem Next} {B : Bool} (hi : ops[i]? = some oi) (hsel : ∀ (j : Nat) (o : Oper) cs b, ops[j]? = some o → o.op ≠ .select cs b)
    (hQ : ∀ c a w, Q (.panic c) (a.put oi.dst v) w → Q (.panic c) a w) :
    ∀ (fuel : Nat) (L : Array Bool) (a : Act) (w : World),
      (∀ j oj, ops[j]? = some oj → j ≠ i → L.getD j true = false → (∀ e ∈ oj.after, Region.binds .any e = true → e.on ≠ i) → oi.apart ops oj = true ∧ ∀ k, M j k → N k) →
      i ∈ Region.ready .any ops L → execOp a.eval oi = X → Region.wanted oi (yielded ops a.tmps) = B → (B = true → ∀ w', Agr N w w' → X.run P w' = .ok (.value v) w') → (B = false → v = undef) →
      WA P ops Q M fuel (L.setIfInBounds i true) (a.put oi.dst v) w → WA P ops Q M (fuel + 1) L a w := by
  intro fuel
  have run : ∀ {K : Act → World → Prop} {a : Act} {w : World}, execOp a.eval oi = X → Region.wanted oi (yielded ops a.tmps) = B → (B = true → ∀ w', Agr N w w' → X.run P w' = .ok (.value v) w') → (B = false → v = undef) → K (a.put oi.dst v) w → wpOp P ops Q i K a w := by
    intro K a w E W hX hB h
    unfold wpOp
    simp only [hi, W]
    cases B with
    | true => simp only [if_true, Oper.wp, E, hX rfl w (Agr.refl _ _), Oper.upon]; exact .inl h
    | false => have := hB rfl; subst this; simp only [Bool.false_eq_true, if_false]; exact h
  induction fuel with
  | zero =>
    intro L a w _ hr E W hX hB H
    refine ⟨fun h => (by rw [h] at hr; cases hr), fun j hj => ?_⟩
    by_cases hji : j = i
    · subst hji; exact run E W hX hB ⟨Agr.refl _ _, H⟩
    · have := ready_mono hj hji
      rw [H.1] at this
      cases this
  | succ fuel ih =>
    intro L a w hfree hr E W hX hB H
    refine ⟨fun h => (by rw [h] at hr; cases hr), fun j hj => ?_⟩
    by_cases hji : j = i
    · subst hji; exact run E W hX hB ⟨Agr.refl _ _, H⟩
    · have h1 := H.2 j (ready_mono hj hji)
      obtain ⟨hjun, oj, hoj, hall⟩ := mem_ready.1 hj
      have hnot : ∀ e ∈ oj.after, Region.binds .any e = true → e.on ≠ i := fun e he hb heq => by
        have h1 := hall e he hb
        have h0 := (mem_ready.1 hr).1
        rw [heq] at h1
        rcases Nat.lt_or_ge i L.size with h' | h'
        · simp [h'] at h0 h1; rw [h0] at h1; cases h1
        · simp [Array.getElem?_eq_none h'] at h1
      have hj2 := hfree j oj hoj hji hjun hnot
      have h2 := wpOp_putA hoj hj2.1 (fun cs b => hsel i oi cs b hi) (fun cs b => hsel j oj cs b hoj) hQ E W h1
      have hfree' : ∀ k ok, ops[k]? = some ok → k ≠ i → (L.setIfInBounds j true).getD k true = false →
          (∀ e ∈ ok.after, Region.binds .any e = true → e.on ≠ i) → oi.apart ops ok = true ∧ ∀ x, M k x → N x := fun k ok hk hki hun hno => by
        refine hfree k ok hk hki ?_ hno
        by_cases hjk : j = k
        · subst hjk; exact hjun
        · rw [getD_set_ne true hjk] at hun; exact hun
      refine wpOp_mono (fun a' w' h3 => ⟨h3.2.1, ih (L.setIfInBounds j true) a' w' hfree' (ready_mono hr (Ne.symm hji)) h3.1.1 h3.1.2 (fun e w'' hw'' => hX e w'' ((h3.2.1.mono fun k _ hk => hj2.2 k hk).trans hw'')) hB ?_⟩) h2
      rw [Array.setIfInBounds_comm _ _ hji]
      exact h3.2.2
end
def MW (N : Nat → Prop) (Wr : List Nat) (B : Nat) (j k : Nat) : Prop := (Wr.contains j = true ∧ N k) ∨ B ≤ k
def RD (P : Program) (n : Cx) (l : List Oper) (N : Nat → Prop) (Wr : List Nat) (B : Nat) (L : Array Bool) (f : Nat) (F : List (Nat × Value)) (w : World) (p : Post) : Prop := ∀ a, Knows n F a → WA P l.toArray p.q (MW N Wr B) f L a w
def noWr (l : List Oper) (Wr : List Nat) (L : Array Bool) (i : Nat) : Bool :=
  Wr.all fun j => L.getD j true || match l[j]? with | some o => o.after.any (fun e => Region.binds .any e && e.on == i) | none => true

section
variable {P : Program} {n : Cx} {F : List (Nat × Value)} {w : World} {p : Post} {l : List Oper} {N : Nat → Prop} {Wr : List Nat} {B : Nat} {L : Array Bool} {f : Nat} {d : Option Tmp} {o : Op} {t : TypeId} {pos : String} {af : Array Edge} {g : Option (Nat × Bool)}
theorem RC.drawD {id ops} (N : Nat → Prop) (Wr : List Nat) (B m : Nat) (hl : ops = List.toArray l) (hn : l.length = m) (hm : P.follows .mixedOrders = true) (h : ∀ w', Sub w w' → RD P n l N Wr B (Array.replicate m false) m F w' p) (hR : n.round = none := by rfl) : RC P n (.region id ops true) F w p := by
  intro a k
  rw [cwp_none hR]
  subst hl
  subst hn
  refine wp_region_any hm (WA.any (M := MW N Wr B) _ _ _ _ ?_)
  have := h { w with drawn := w.drawn + 1 } ⟨rfl, rfl, rfl, Nat.le_refl _, fun _ _ => rfl⟩ a k
  simpa using this
theorem RD.take {v} (i : Nat) (hi : l[i]? = some ⟨d, o, t, pos, af, g⟩) (hs : Region.noSelect l.toArray = true) (hf : Region.free .any l.toArray L i = true) (hr : (Region.ready .any l.toArray L).contains i = true)
    (he : ∀ w', Agr (fun k => N k ∨ B ≤ k) w w' → EvOp P F o w' v) (hg : gsat l.toArray F g = some true) (hd : inB d n = true) (h : RD P n l N Wr B (L.setIfInBounds i true) f (upd F d v) w p) : RD P n l N Wr B L (f + 1) F w p := by
  intro a k
  have hi' : l.toArray[i]? = some ⟨d, o, t, pos, af, g⟩ := by simpa using hi
  refine WA.first (N := fun k => N k ∨ B ≤ k) hi' (Region.noSelect_spec hs) (fun c a w h => h) f L a w (fun j oj h1 h2 h3 h4 => ⟨Region.free_spec hi' hf j oj h1 h2 h3 h4, fun k hk => hk.imp And.right id⟩) (by simpa using hr) rfl (wanted_of k hg) (fun _ w' hw' => ?_) (fun e => by cases e) (h _ (k.upd d v hd))
  exact he w' hw' d t pos af g _ k.agrees w' (Sub.refl _)
theorem RD.takeL {v} (i : Nat) (hi : l[i]? = some ⟨d, o, t, pos, af, g⟩) (hs : Region.noSelect l.toArray = true) (hf : Region.free .any l.toArray L i = true) (hr : (Region.ready .any l.toArray L).contains i = true) (hw : noWr l Wr L i = true)
    (he : ∀ w', Agr (fun k => B ≤ k) w w' → EvOp P F o w' v) (hg : gsat l.toArray F g = some true) (hd : inB d n = true) (h : RD P n l N Wr B (L.setIfInBounds i true) f (upd F d v) w p) : RD P n l N Wr B L (f + 1) F w p := by
  intro a k
  have hi' : l.toArray[i]? = some ⟨d, o, t, pos, af, g⟩ := by simpa using hi
  refine WA.first (N := fun k => B ≤ k) hi' (Region.noSelect_spec hs) (fun c a w h => h) f L a w (fun j oj h1 h2 h3 h4 => ⟨Region.free_spec hi' hf j oj h1 h2 h3 h4, fun k hk => hk.elim (fun hk => ?_) id⟩) (by simpa using hr) rfl (wanted_of k hg) (fun _ w' hw' => ?_) (fun e => by cases e) (h _ (k.upd d v hd))
  · have hc := hk.1
    have := List.all_eq_true.1 hw j (by simpa using hc)
    have hlj : l[j]? = some oj := by simpa using h1
    simp only [h3, Bool.false_or, hlj] at this
    obtain ⟨e, he1, he2⟩ := Array.any_eq_true'.1 this
    simp only [Bool.and_eq_true, beq_iff_eq] at he2
    exact absurd he2.2 (h4 e he1 he2.1)
  · exact he w' hw' d t pos af g _ k.agrees w' (Sub.refl _)
theorem RD.takeOff (i : Nat) (hi : l[i]? = some ⟨d, o, t, pos, af, g⟩) (hs : Region.noSelect l.toArray = true) (hf : Region.free .any l.toArray L i = true) (hr : (Region.ready .any l.toArray L).contains i = true)
    (hg : gsat l.toArray F g = some false) (hd : inB d n = true) (h : RD P n l N Wr B (L.setIfInBounds i true) f (upd F d undef) w p) : RD P n l N Wr B L (f + 1) F w p := by
  intro a k
  have hi' : l.toArray[i]? = some ⟨d, o, t, pos, af, g⟩ := by simpa using hi
  exact WA.first (N := fun k => N k ∨ B ≤ k) hi' (Region.noSelect_spec hs) (fun c a w h => h) f L a w (fun j oj h1 h2 h3 h4 => ⟨Region.free_spec hi' hf j oj h1 h2 h3 h4, fun k hk => hk.imp And.right id⟩) (by simpa using hr) rfl (wanted_of k hg) (fun e => by cases e) (fun _ => rfl) (h _ (k.upd d undef hd))
def RDs (P : Program) (n : Cx) (l : List Oper) (N : Nat → Prop) (Wr : List Nat) (B : Nat) (L : Array Bool) (f : Nat) (is : List Nat) (F : List (Nat × Value)) (w : World) (p : Post) : Prop :=
  ∀ i ∈ is, ∀ a, Knows n F a → wpOp P l.toArray p.q i (fun a' w' => Agr (MW N Wr B i) w w' ∧ WA P l.toArray p.q (MW N Wr B) f (L.setIfInBounds i true) a' w') a w
theorem RD.all (is : List Nat) (hr : Region.ready .any l.toArray L = is) (hne : is.isEmpty = false) (h : RDs P n l N Wr B L f is F w p) : RD P n l N Wr B L (f + 1) F w p := fun a k =>
  ⟨fun e => (by rw [e] at hr; subst hr; cases hne), fun i hi => h i (hr ▸ hi) a k⟩
theorem RDs.nil : RDs P n l N Wr B L f [] F w p := fun i hi => by cases hi
theorem RDs.cons {i is o} (hi : l[i]? = some o) (h : RL P n l.toArray [o] F w (p.to fun a w' => Agr (MW N Wr B i) w w' ∧ WA P l.toArray p.q (MW N Wr B) f (L.setIfInBounds i true) a w')) (hs : RDs P n l N Wr B L f is F w p) (hR : n.round = none := by rfl) : RDs P n l N Wr B L f (i :: is) F w p := by
  intro j hj a k
  rcases List.mem_cons.1 hj with rfl | hj
  · have := h a k
    rw [lwp_none hR] at this
    simp only [wpList] at this
    unfold wpOp
    have hi' : l.toArray[j]? = some o := by simpa using hi
    simp only [hi']
    split
    · rename_i hw
      simp only [hw, if_true] at this
      rcases this with this | ⟨ha, hl⟩
      · refine .inl ?_
        unfold Oper.wp at *
        generalize (execOp a.eval o).run P w = r at *
        cases r with
        | ok n w' =>
          cases n <;> simp only [Oper.upon] at this ⊢ <;>
            first
              | exact this
              | exact Calls.mono this (fun e w'' he => by cases e <;> exact he)
              | exact Rows.mono this (fun _ _ he => he)
        | halt x w' => cases x <;> simp only [Oper.upon] at this ⊢ <;> exact this
      · exact .inr ⟨ha, hl⟩
    · rename_i hw
      simp only [hw] at this
      exact this
  · exact hs j hj a k
theorem RD.back {ops : Array Oper} {i F' w'} (hA : Agr (fun k => B ≤ k) w w') (h : RD P n l N Wr B L f F' w' p) : RL P n ops [] F' w' (p.to fun a w'' => Agr (MW N Wr B i) w w'' ∧ WA P l.toArray p.q (MW N Wr B) f L a w'') :=
  RL.nil fun a k => ⟨hA.mono fun k _ hk => .inr hk, h a k⟩
theorem RD.backW {ops : Array Oper} {i F' w'} (hi : Wr.contains i = true) (hA : Agr (fun k => N k ∨ B ≤ k) w w') (h : RD P n l N Wr B L f F' w' p) : RL P n ops [] F' w' (p.to fun a w'' => Agr (MW N Wr B i) w w'' ∧ WA P l.toArray p.q (MW N Wr B) f L a w'') :=
  RL.nil fun a k => ⟨hA.mono fun k _ hk => hk.imp (fun h => ⟨hi, h⟩) id, h a k⟩
theorem RD.done (hr : Region.ready .any l.toArray L = []) (h : ∀ a, Knows n F a → p.nrm a w) : RD P n l N Wr B L f F w p := fun a k => by
  cases f with
  | zero => exact ⟨hr, h a k⟩
  | succ f => exact ⟨fun _ => h a k, by rw [hr]; simp⟩

theorem Sub.agrN {w0 w' : World} (s : Sub w0 w) (a : Agr N w w') (hN : ∀ k, N k → w0.heap.size ≤ k) : Sub w0 w' :=
  ⟨a.os.trans s.os, a.tape.trans s.tape, a.output.trans s.output, Nat.le_trans s.size a.size, fun k hk => (a.block k (Nat.lt_of_lt_of_le hk s.size) (fun e => Nat.not_le.2 hk (hN k e))).trans (s.block k hk)⟩
theorem RC.cutx {c y} {α : Type} (G : α → List (Nat × Value)) (I : α → World → Prop) (h : RC P n c F w (p.to fun a w' => ∃ x, I x w' ∧ Knows n (G x) a)) (k : ∀ x w', I x w' → RC P n y (G x) w' p) : RC P n (.seq c y) F w p :=
  RC.seq fun a ka => cwp_mono (h a ka) fun e a' w' hq => by
    cases e with
    | normal => obtain ⟨x, h1, h2⟩ := hq; exact k x w' h1 a' h2
    | _ => exact hq
end
def OwnC (base : Nat) (w : World) (e : TypeId) (sz : Nat) (v : Value) (rows : List (List Value)) : Prop :=
  Ows base w e sz v rows ∨ ∃ a, v = .slice a rows.length rows.length ∧ Sl w a sz rows ∧ ∀ r ∈ rows, r.length = sz
theorem OwnC.form {base w e sz v rows} (h : OwnC base w e sz v rows) : ∃ a c, v = .slice a rows.length c ∧ rows.length ≤ c ∧ Sl w a sz rows := by
  rcases h with h | ⟨a, rfl, h, _⟩
  · obtain ⟨a, c, rfl, hc⟩ := h.form
    exact ⟨a, c, rfl, hc, h.sl.1⟩
  · exact ⟨a, _, rfl, Nat.le_refl _, h⟩
theorem Ows.ge {base w e sz v rows} (h : Ows base w e sz v rows) : ∀ k, ob v = some k → base ≤ k ∧ k < w.heap.size := h.own.lt
theorem Ows.neNew {base w e sz v rows b} (h : Ows base w e sz v rows) (hb : b = w.heap.size) : ∀ k, ob v = some k → k ≠ b := fun k hk e' => absurd (h.ge k hk).2 (by omega)
theorem Ows.updD {base w e sz v rows w' b} (h : Ows base w e sz v rows) (a : Agr (· = b) w w') (d : ∀ k, ob v = some k → k ≠ b) : Ows base w' e sz v rows := h.step a d
theorem obNe {w : World} {v v' : Value} {b : Nat} (h : ob v' = ob v ∨ ∃ c, ob v' = some c ∧ w.heap.size ≤ c) (d : ∀ k, ob v = some k → k ≠ b) (hb : b < w.heap.size) : ∀ k, ob v' = some k → k ≠ b := by
  intro k hk
  rcases h with h | ⟨c, h1, h2⟩
  · exact d k (h ▸ hk)
  · rw [h1] at hk; cases hk; omega
theorem obLit {b m c k : Nat} (h : ob (.slice (some ⟨b, 0, none⟩) m c) = some k) : b = k := by simpa [ob, Value.ownBlock] using h

section
variable {P : Program} {n : Cx} {F : List (Nat × Value)} {w : World} {p : Post} {ops : Array Oper} {rest : List Oper} {d : Option Tmp} {t : TypeId} {pos : String} {af : Array Edge} {g : Option (Nat × Bool)}
theorem run_append_zero {ty t e : TypeId} {i : TypeInfo} (h1 : P.underlying ty = some (.slice e)) (h2 : P.info? e = some i) {b ax : Option Addr} {k c c' : Nat} (hk : k ≤ c) :
    (Builtin.append_ #[ty, ty] t #[.slice b k c, .slice ax 0 c']).run P w = .ok (.slice b k c) w := by
  have hf : (Builtin.firstCells i.size 0 (.slice ax 0 c')).run P w = .ok #[] w := by
    cases ax <;> simp [Builtin.firstCells, loadCells, loadCellsFrom, pure, Sem.run]
  cases b with
  | none => simp [Builtin.append_, Go.run_underlying h1, sizeOf, typeInfo, h2, Builtin.lenOf, hf, hk]
  | some a => simp [Builtin.append_, Go.run_underlying h1, sizeOf, typeInfo, h2, Builtin.lenOf, hf, hk, storeCells]

theorem RL.append2 {ty y x v ax m c e s by_ z base rows news} (ht : sliceOf P ty = some (e, s, by_)) (hz : zeroOf P e = some z) (hzs : z.cells.size = s) (hs : Nat.blt 0 s = true) (hy : XL.ev F y = some v) (hx : XL.ev F x = some (.slice ax m c))
    (hown : OwnC base w e s v rows) (hnew : Sl w ax s news) (hm : m = news.length) (hnl : ∀ r ∈ news, r.length = s) (hp : news.all (fun r => r.all plainV) = true) (hlen : (rows.length + m) * by_ ≤ 140737488355328) (hlen' : rows.length + m ≤ 140737488355328) (hbase : base ≤ w.heap.size) (hg : gsat ops F g = some true) (hd : inB d n = true)
    (h : ∀ v' w', OwnC base w' e s v' (rows ++ news) → (news ≠ [] ∨ Ows base w e s v rows → Ows base w' e s v' (rows ++ news)) → Agr (fun k => ob v = some k ∧ base ≤ k) w w' → (ob v' = ob v ∨ ∃ b, ob v' = some b ∧ w.heap.size ≤ b) → RL P n ops rest (upd F d v') w' p) : RL P n ops (⟨d, .call ⟨.builtin .append, #[y, x], #[ty, ty]⟩, t, pos, af, g⟩ :: rest) F w p := by
  have hs' : 0 < s := by simpa using hs
  obtain ⟨h1, i, h2, h3, h4⟩ := sliceOf_spec ht
  obtain ⟨i', hi', hzz⟩ := zeroOf_spec hz
  rw [h2] at hi'; cases hi'
  by_cases hn0 : news = []
  · subst hn0
    have hm0 : m = 0 := hm
    subst hm0
    obtain ⟨b, k, rfl, hk, _⟩ := hown.form
    refine RL.on hg hd (v := .slice b rows.length k) (w' := w) (fun ρ hρ => ?_) (h _ _ (by rw [List.append_nil]; exact hown) (by rw [List.append_nil]; exact fun h => h.resolve_left (fun h => h rfl)) (Agr.refl _ _) (.inl rfl))
    simp only [execOp, resolve, hρ y _ hy, hρ x _ hx, bind, Sem.bind, pure, invoke, builtin, List.map_toArray, List.map_cons, List.map_nil]
    have := run_bind (P := P) (Builtin.append_ #[ty, ty] t #[.slice b rows.length k, .slice ax 0 c]) (fun v => (Sem.pure (Next.value v) : Sem Next)) w
    rw [run_append_zero h1 h2 hk] at this
    exact this
  · obtain ⟨a, rfl⟩ : ∃ a, ax = some a := Option.isSome_iff_exists.1 (hnew.some hn0)
    have go : Ows base w e s v rows → RL P n ops (⟨d, .call ⟨.builtin .append, #[y, x], #[ty, ty]⟩, t, pos, af, g⟩ :: rest) F w p := fun ho =>
      RL.append ht hz hzs hs hy hx ho hnew hm hnl hp hlen hlen' hbase hg hd fun v' w' h1 h2 h3 =>
        h v' w' (.inl h1) (fun _ => h1) ⟨h2.os, h2.tape, h2.output, h2.size, fun k hk hn => h2.block k hk (fun e => hn ⟨e, (ho.ge k e).1⟩)⟩ h3
    rcases hown with hown | ⟨a0, rfl, hsl, hl⟩
    · exact go hown
    · by_cases h0 : a0 = none
      · subst h0
        have : rows = [] := by
          refine Classical.byContradiction fun e => ?_
          have := hsl.some e
          simp at this
        subst this
        exact go (Ows.nil _ _ _ _)
      · obtain ⟨b0, rfl⟩ := Option.ne_none_iff_exists'.1 h0
        have cellsOf : ∀ (ad : Addr) (l : List (List Value)), (∀ r ∈ l, r.length = s) → Sl w (some ad) s l → ∀ j u, l.flatten[j]? = some u → w.cell? (ad.add j) = some u := by
          intro ad l hll hsl j u hj
          have hjl : j < l.length * s := by
            rw [← flat_len l hll]
            rcases Nat.lt_or_ge j l.flatten.length with q | q
            · exact q
            · rw [List.getElem?_eq_none q] at hj; cases hj
          have hd' : j / s < l.length := (Nat.div_lt_iff_lt_mul hs').2 hjl
          have hmod : j % s < s := Nat.mod_lt _ hs'
          have ej : j = (j / s) * s + j % s := by rw [Nat.mul_comm]; exact (Nat.div_add_mod j s).symm
          obtain ⟨r, hr⟩ : ∃ r, l[j / s]? = some r := ⟨_, List.getElem?_eq_getElem hd'⟩
          have hf := flat_get l hll (j / s) (j % s) r hr hmod
          rw [← ej, hj] at hf
          have hc := hsl.row (j / s) r hr (j % s) u hf.symm
          simp only [Option.getD_some] at hc
          rw [← hc]
          congr 1
          rw [ej]
          obtain ⟨bb, oo, sp⟩ := ad
          unfold Addr.add
          by_cases q1 : (j / s) * s = 0
          · rw [← ej]
            by_cases q2 : j % s = 0
            · rw [if_pos (by omega), if_pos q1, if_pos q2]
            · rw [if_neg (by omega), if_pos q1, if_neg q2]; simp only; congr 2; omega
          · rw [← ej]
            by_cases q2 : j % s = 0
            · rw [if_neg (by omega), if_neg q1, if_pos q2]; congr 1; omega
            · rw [if_neg (by omega), if_neg q1, if_neg q2]; simp only; congr 1; omega
        subst hm
        have hnl0 : 0 < news.length := by cases news with | nil => exact absurd rfl hn0 | cons _ _ => simp
        have hml : rows.length + news.length ≤ maxLen := by unfold maxLen; omega
        have hfo : rows.flatten.length = rows.length * s := flat_len rows hl
        have hfn : news.flatten.length = news.length * s := flat_len news hnl
        have hr := run_append_grow (P := P) w ty t e i z h1 h2 hzz b0 rows.length rows.length rows.flatten (by rw [hfo, h3]) (cellsOf b0 rows hl hsl) a news.length c news.flatten (by rw [hfn, h3]) (cellsOf a news hnl hnew) (by omega) (by omega) (growslice_fits (by omega) (by rw [h4]; exact hlen))
        have hge := grownCap_ge w (rows.length + news.length) rows.length e
        have hcm := grownCap_le_maxLen w (rows.length + news.length) rows.length e hml
        have hfl : (rows ++ news).flatten = rows.flatten ++ news.flatten := List.flatten_append
        have hrl : (rows ++ news).length = rows.length + news.length := List.length_append
        generalize hw0 : w.drew.alloc (.cells (rows.flatten.toArray ++ news.flatten.toArray ++ Builtin.zeroCells z.cells (grownCap w (rows.length + news.length) rows.length e - (rows.length + news.length))) e) = w0 at hr
        have ho : Ows base w0 e s (.slice (some ⟨w.heap.size, 0, none⟩) (rows.length + news.length) (grownCap w (rows.length + news.length) rows.length e)) (rows ++ news) := by
          subst hw0
          refine ⟨⟨by rw [hfl, hrl, List.length_append, hfo, hfn, Nat.add_mul], .inr ⟨w.heap.size, _, _, by rw [hrl], hbase, heap_alloc_new w.drew _, by rw [hrl]; exact hge, hcm, ?_, ?_⟩⟩, fun r hr => (List.mem_append.1 hr).elim (hl r) (hnl r)⟩
          · simp only [Array.size_append, List.size_toArray, size_zeroCells, hzs, hfo, hfn, ← Nat.add_mul]
            congr 1
            omega
          · simp only [Array.toList_append, List.append_assoc]
            rw [hrl, hfl, ← List.append_assoc, show (rows.length + news.length) * s = (rows.flatten ++ news.flatten).length by rw [List.length_append, hfo, hfn, Nat.add_mul]]
            exact List.take_left
        have ha : Agr (fun _ => False) w w0 := by
          subst hw0
          exact ⟨rfl, rfl, rfl, by simp, fun k hk _ => heap_alloc_old' w.drew _ hk⟩
        refine RL.on hg hd (v := .slice (some ⟨w.heap.size, 0, none⟩) (rows.length + news.length) (grownCap w (rows.length + news.length) rows.length e)) (w' := w0) (fun ρ hρ => ?_) (h _ _ (.inl ho) (fun _ => ho) (ha.mono fun k _ e => e.elim) (.inr ⟨_, rfl, Nat.le_refl _⟩))
        simp only [execOp, resolve, hρ y _ hy, hρ x _ hx, bind, Sem.bind, pure, invoke, builtin, List.map_toArray, List.map_cons, List.map_nil]
        have := run_bind (P := P) (Builtin.append_ #[ty, ty] t #[.slice (some b0) rows.length rows.length, .slice (some a) news.length c]) (fun v => (Sem.pure (Next.value v) : Sem Next)) w
        rw [hr] at this
        exact this
end
end Go.XL
namespace Go.XL
open Go
section
variable {P : Program} {n : Cx} {F : List (Nat × Value)} {w : World} {p : Post} {l : List Oper} {N : Nat → Prop} {Wr : List Nat} {B : Nat} {L : Array Bool} {f : Nat} {d : Option Tmp} {o : Op} {t : TypeId} {pos : String} {af : Array Edge} {g : Option (Nat × Bool)}
def tkB (l : List Oper) (L : Array Bool) (i : Nat) : Bool := Region.noSelect l.toArray && (Region.free .any l.toArray L i && (Region.ready .any l.toArray L).contains i)
theorem tkB_spec {i : Nat} (h : tkB l L i = true) : Region.noSelect l.toArray = true ∧ Region.free .any l.toArray L i = true ∧ (Region.ready .any l.toArray L).contains i = true := by
  unfold tkB at h
  rw [Bool.and_eq_true, Bool.and_eq_true] at h
  exact h
theorem RD.takeS {v} (i : Nat) (hi : l[i]? = some ⟨d, o, t, pos, af, g⟩) (hb : tkB l L i = true) (he : ∀ w', Agr (fun k => N k ∨ B ≤ k) w w' → EvOp P F o w' v) (hg : gsat l.toArray F g = some true) (hd : inB d n = true) (h : RD P n l N Wr B (L.setIfInBounds i true) f (upd F d v) w p) : RD P n l N Wr B L (f + 1) F w p :=
  RD.take i hi (tkB_spec hb).1 (tkB_spec hb).2.1 (tkB_spec hb).2.2 he hg hd h
theorem RD.takeOffS (i : Nat) (hi : l[i]? = some ⟨d, o, t, pos, af, g⟩) (hb : tkB l L i = true) (hg : gsat l.toArray F g = some false) (hd : inB d n = true) (h : RD P n l N Wr B (L.setIfInBounds i true) f (upd F d undef) w p) : RD P n l N Wr B L (f + 1) F w p :=
  RD.takeOff i hi (tkB_spec hb).1 (tkB_spec hb).2.1 (tkB_spec hb).2.2 hg hd h
theorem RL.eS {rest : List Oper} {ops : Array Oper} {v} (he : EvOp P F o w v) (h : RL P n ops rest (upd F d v) w p) (hg : gsat ops F g = some true := by rfl) (hd : inB d n = true := by rfl) : RL P n ops (⟨d, o, t, pos, af, g⟩ :: rest) F w p := RL.ev he hg hd h
theorem RL.mvS {rest : List Oper} {ops : Array Oper} {x v} (hx : XL.ev F x = some v) (h : RL P n ops rest (upd F d v) w p) (hg : gsat ops F g = some true := by rfl) (hd : inB d n = true := by rfl) : RL P n ops (⟨d, .move x, t, pos, af, g⟩ :: rest) F w p := RL.ev (.move hx) hg hd h
theorem RL.asS {rest : List Oper} {ops : Array Oper} {x v} (hx : XL.ev F x = some v) (h : RL P n ops rest (upd F d v) w p) (hg : gsat ops F g = some true := by rfl) (hd : inB d n = true := by rfl) : RL P n ops (⟨d, .assign x, t, pos, af, g⟩ :: rest) F w p := RL.ev (.assign hx) hg hd h
theorem RD.tS {v} (i : Nat) (hi : l[i]? = some ⟨d, o, t, pos, af, g⟩) (he : ∀ w', Agr (fun k => N k ∨ B ≤ k) w w' → EvOp P F o w' v) (h : RD P n l N Wr B (L.setIfInBounds i true) f (upd F d v) w p) (hb : tkB l L i = true := by kernel_rfl) (hg : gsat l.toArray F g = some true := by rfl) (hd : inB d n = true := by rfl) : RD P n l N Wr B L (f + 1) F w p :=
  RD.takeS i hi hb he hg hd h
theorem RC.d1 (k : Nat) {fn : Func} {R : Value → World → Prop} {v : Value} (hrs : fn.results = [ResultVar.tmp k].toArray) (hp : p.ret = (Post.fn P fn R).ret) (hv : look F k = some v) (hR : R (tup [v]) w) (hM : n.marks = [] := by rfl) : RC P n .ret F w p :=
  RC.done (rs := [.tmp k]) (vs := [v]) hrs hp ⟨hv, trivial⟩ hR hM
theorem RL.stS {rest : List Oper} {ops : Array Oper} {ty x y b o e cs v k s} (hs : shapeOf P ty = some (k, s)) (hx : XL.ev F x = some (.pointer (some ⟨b, o, none⟩))) (hy : XL.ev F y = some v) (hz : v.cells.size = s) (hb : Has w b cs e) (h : ∀ w', w'.heap.size = w.heap.size → Has w' b (splice cs o v.cells.toList) e → Agr (· = b) w w' → RL P n ops rest F w' p)
    (hl : o + v.cells.toList.length ≤ cs.length := by exact Nat.le_of_ble_eq_true rfl) (hp : v.cells.toList.all plainV = true := by rfl) (hg : gsat ops F g = some true := by rfl) : RL P n ops (⟨none, .store ty x y, t, pos, af, g⟩ :: rest) F w p := RL.store hs hx hy hz hb hl hp hg h
theorem RD.oneS {oi : Oper} (i : Nat) (hi : l[i]? = some oi) (h : RL P n l.toArray [oi] F w (p.to fun a w' => Agr (MW N Wr B i) w w' ∧ WA P l.toArray p.q (MW N Wr B) f (L.setIfInBounds i true) a w')) (hr : Region.ready .any l.toArray L = [i] := by kernel_rfl) (hR : n.round = none := by rfl) : RD P n l N Wr B L (f + 1) F w p := RD.all [i] hr rfl (RDs.cons hi h RDs.nil hR)
theorem RQ.oS {rest : List Oper} {ops : Array Oper} {K : Act → Prop} (h : RQ P n ops rest (upd F d undef) w K) (hg : gsat ops F g = some false := by rfl) (hd : inB d n = true := by rfl) : RQ P n ops (⟨d, o, t, pos, af, g⟩ :: rest) F w K := RQ.off hg hd h
/-- some operations that do not run -/
def offB (ops : Array Oper) (n : Cx) : Nat → List Oper → List (Nat × Value) → Bool
  | 0, _, _ => true
  | _ + 1, [], _ => false
  | m + 1, o :: l, F => (match gsat ops F o.guard with | some false => inB o.dst n | _ => false) && offB ops n m l (upd F o.dst undef)
def offF : Nat → List Oper → List (Nat × Value) → List (Nat × Value)
  | 0, _, F => F
  | _ + 1, [], F => F
  | m + 1, o :: l, F => offF m l (upd F o.dst undef)
theorem RL.offs {ops : Array Oper} : ∀ (m : Nat) {l : List Oper} {F : List (Nat × Value)}, offB ops n m l F = true → RL P n ops (l.drop m) (offF m l F) w p → RL P n ops l F w p
  | 0, _, _, _, h => h
  | _ + 1, [], _, hb, _ => by cases hb
  | m + 1, ⟨d, o, t, pos, af, g⟩ :: l, F, hb, h => by
    simp only [offB] at hb
    cases hg : gsat ops F g with
    | none => rw [hg] at hb; cases hb
    | some b =>
      cases b with
      | true => rw [hg] at hb; cases hb
      | false =>
        rw [hg, Bool.and_eq_true] at hb
        exact RL.off hg hb.1 (RL.offs m hb.2 h)
end
end Go.XL
set_option linter.unusedVariables false
namespace Go.Proofs.Ytfkanamdlndkfaa
open Go
theorem mxo : Try.prog.follows .mixedOrders = true := by kernel_rfl
theorem sh2 : XL.shapeOf Try.prog 2 = some (false, 1) := by kernel_rfl
theorem i2 : XL.intOf? Try.prog 2 = some .i64 := by kernel_rfl
theorem ze2 : XL.zeroOf Try.prog 2 = some (.int .i64 0) := by kernel_rfl
theorem sh3 : XL.shapeOf Try.prog 3 = some (false, 1) := by kernel_rfl
theorem i3 : XL.intOf? Try.prog 3 = some .i64 := by kernel_rfl
theorem ze3 : XL.zeroOf Try.prog 3 = some (.int .i64 0) := by kernel_rfl
theorem sh22 : XL.shapeOf Try.prog 22 = some (false, 1) := by kernel_rfl
theorem sl22 : XL.sliceOf Try.prog 22 = some (47, 2, 16) := by kernel_rfl
theorem sh23 : XL.shapeOf Try.prog 23 = some (false, 1) := by kernel_rfl
theorem sl23 : XL.sliceOf Try.prog 23 = some (2, 1, 8) := by kernel_rfl
theorem sh25 : XL.shapeOf Try.prog 25 = some (true, 4) := by kernel_rfl
theorem fo25_0 : XL.fieldOff Try.prog 25 0 = some 0 := by kernel_rfl
theorem fo25_1 : XL.fieldOff Try.prog 25 1 = some 1 := by kernel_rfl
theorem fo25_2 : XL.fieldOff Try.prog 25 2 = some 2 := by kernel_rfl
theorem fo25_3 : XL.fieldOff Try.prog 25 3 = some 3 := by kernel_rfl
theorem pl25 : XL.placesOf Try.prog 25 = some [(0, 1), (1, 1), (2, 1), (3, 1)] := by kernel_rfl
theorem ze25 : XL.zeroOf Try.prog 25 = some (.agg #[.slice none 0 0, .slice none 0 0, .slice none 0 0, .slice none 0 0]) := by kernel_rfl
theorem sh27 : XL.shapeOf Try.prog 27 = some (true, 4) := by kernel_rfl
theorem fo27_0 : XL.fieldOff Try.prog 27 0 = some 0 := by kernel_rfl
theorem fo27_1 : XL.fieldOff Try.prog 27 1 = some 1 := by kernel_rfl
theorem fo27_2 : XL.fieldOff Try.prog 27 2 = some 2 := by kernel_rfl
theorem fo27_3 : XL.fieldOff Try.prog 27 3 = some 3 := by kernel_rfl
theorem pl27 : XL.placesOf Try.prog 27 = some [(0, 1), (1, 1), (2, 1), (3, 1)] := by kernel_rfl
theorem fk27 : XL.flatK Try.prog 6 27 = some [some .i64, some .i64, some .i64, some .i64] := by kernel_rfl
theorem ze27 : XL.zeroOf Try.prog 27 = some (.agg #[.int .i64 0, .int .i64 0, .int .i64 0, .int .i64 0]) := by kernel_rfl
theorem sh29 : XL.shapeOf Try.prog 29 = some (false, 1) := by kernel_rfl
theorem sh31 : XL.shapeOf Try.prog 31 = some (true, 3) := by kernel_rfl
theorem fo31_0 : XL.fieldOff Try.prog 31 0 = some 0 := by kernel_rfl
theorem pl31 : XL.placesOf Try.prog 31 = some [(0, 1), (1, 1), (2, 1)] := by kernel_rfl
theorem fk31 : XL.flatK Try.prog 6 31 = some [some .i64, some .i64, some .i64] := by kernel_rfl
theorem eg31 : Try.prog.eqGuardType Try.prog.depth 31 = false := by kernel_rfl
theorem ze31 : XL.zeroOf Try.prog 31 = some (.agg #[.int .i64 0, .int .i64 0, .int .i64 0]) := by kernel_rfl
theorem sl43 : XL.sliceOf Try.prog 43 = some (31, 3, 24) := by kernel_rfl
theorem sh47 : XL.shapeOf Try.prog 47 = some (true, 2) := by kernel_rfl
theorem fo47_0 : XL.fieldOff Try.prog 47 0 = some 0 := by kernel_rfl
theorem fo47_1 : XL.fieldOff Try.prog 47 1 = some 1 := by kernel_rfl
theorem pl47 : XL.placesOf Try.prog 47 = some [(0, 1), (1, 1)] := by kernel_rfl
theorem fk47 : XL.flatK Try.prog 6 47 = some [some .i64, some .i64] := by kernel_rfl
theorem eg47 : Try.prog.eqGuardType Try.prog.depth 47 = false := by kernel_rfl
theorem ze47 : XL.zeroOf Try.prog 47 = some (.agg #[.int .i64 0, .int .i64 0]) := by kernel_rfl
theorem pl58 : XL.placesOf Try.prog 58 = some [(0, 1), (1, 1)] := by kernel_rfl
theorem ze58 : XL.zeroOf Try.prog 58 = some (.agg #[.int .i64 0, .int .i64 0]) := by kernel_rfl
theorem sh60 : XL.shapeOf Try.prog 60 = some (false, 1) := by kernel_rfl
theorem sh61 : XL.shapeOf Try.prog 61 = some (true, 4) := by kernel_rfl
theorem ar61 : XL.arrOf Try.prog 61 = some (4, 60, 1) := by kernel_rfl
theorem ze61 : XL.zeroOf Try.prog 61 = some (.agg #[.nilFunc, .nilFunc, .nilFunc, .nilFunc]) := by kernel_rfl
theorem sl64 : XL.sliceOf Try.prog 64 = some (27, 4, 32) := by kernel_rfl
theorem sh76 : XL.shapeOf Try.prog 76 = some (false, 1) := by kernel_rfl
theorem i76 : XL.intOf? Try.prog 76 = some .u64 := by kernel_rfl
theorem sl78 : XL.sliceOf Try.prog 78 = some (3, 1, 8) := by kernel_rfl
theorem i88 : XL.intOf? Try.prog 88 = some .u64 := by kernel_rfl
theorem sh91 : XL.shapeOf Try.prog 91 = some (true, 2) := by kernel_rfl
theorem fo91_0 : XL.fieldOff Try.prog 91 0 = some 0 := by kernel_rfl
theorem fo91_1 : XL.fieldOff Try.prog 91 1 = some 1 := by kernel_rfl
theorem pl91 : XL.placesOf Try.prog 91 = some [(0, 1), (1, 1)] := by kernel_rfl
theorem ze91 : XL.zeroOf Try.prog 91 = some (.agg #[.int .i64 0, .int .u64 0]) := by kernel_rfl
theorem ar92 : XL.arrOf Try.prog 92 = some (3, 91, 2) := by kernel_rfl
theorem ze92 : XL.zeroOf Try.prog 92 = some (.agg #[.int .i64 0, .int .u64 0, .int .i64 0, .int .u64 0, .int .i64 0, .int .u64 0]) := by kernel_rfl
theorem ok4 : XL.calleeOK Try.prog 4 = true := by kernel_rfl
theorem ok5 : XL.calleeOK Try.prog 5 = true := by kernel_rfl
theorem ok6 : XL.calleeOK Try.prog 6 = true := by kernel_rfl
theorem ok7 : XL.calleeOK Try.prog 7 = true := by kernel_rfl
theorem ok8 : XL.calleeOK Try.prog 8 = true := by kernel_rfl
theorem ok9 : XL.calleeOK Try.prog 9 = true := by kernel_rfl
theorem ok10 : XL.calleeOK Try.prog 10 = true := by kernel_rfl
theorem ok11 : XL.calleeOK Try.prog 11 = true := by kernel_rfl
theorem ok12 : XL.calleeOK Try.prog 12 = true := by kernel_rfl
theorem ok13 : XL.calleeOK Try.prog 13 = true := by kernel_rfl
theorem ok14 : XL.calleeOK Try.prog 14 = true := by kernel_rfl
theorem ok15 : XL.calleeOK Try.prog 15 = true := by kernel_rfl
theorem ok16 : XL.calleeOK Try.prog 16 = true := by kernel_rfl
theorem ok17 : XL.calleeOK Try.prog 17 = true := by kernel_rfl
theorem ok18 : XL.calleeOK Try.prog 18 = true := by kernel_rfl
theorem ok19 : XL.calleeOK Try.prog 19 = true := by kernel_rfl
theorem ok20 : XL.calleeOK Try.prog 20 = true := by kernel_rfl
theorem ok21 : XL.calleeOK Try.prog 21 = true := by kernel_rfl
theorem ok22 : XL.calleeOK Try.prog 22 = true := by kernel_rfl
theorem ok23 : XL.calleeOK Try.prog 23 = true := by kernel_rfl
theorem ok24 : XL.calleeOK Try.prog 24 = true := by kernel_rfl
theorem ok25 : XL.calleeOK Try.prog 25 = true := by kernel_rfl
theorem ok26 : XL.calleeOK Try.prog 26 = true := by kernel_rfl
theorem ok27 : XL.calleeOK Try.prog 27 = true := by kernel_rfl
theorem ok28 : XL.calleeOK Try.prog 28 = true := by kernel_rfl
theorem ok29 : XL.calleeOK Try.prog 29 = true := by kernel_rfl
theorem ok30 : XL.calleeOK Try.prog 30 = true := by kernel_rfl
theorem ok31 : XL.calleeOK Try.prog 31 = true := by kernel_rfl
theorem ok32 : XL.calleeOK Try.prog 32 = true := by kernel_rfl
theorem ok33 : XL.calleeOK Try.prog 33 = true := by kernel_rfl
theorem ok34 : XL.calleeOK Try.prog 34 = true := by kernel_rfl
theorem ok35 : XL.calleeOK Try.prog 35 = true := by kernel_rfl
theorem ok38 : XL.calleeOK Try.prog 38 = true := by kernel_rfl
theorem ok40 : XL.calleeOK Try.prog 40 = true := by kernel_rfl
theorem ok41 : XL.calleeOK Try.prog 41 = true := by kernel_rfl
theorem ok42 : XL.calleeOK Try.prog 42 = true := by kernel_rfl
theorem ok43 : XL.calleeOK Try.prog 43 = true := by kernel_rfl
theorem ok44 : XL.calleeOK Try.prog 44 = true := by kernel_rfl
theorem ok45 : XL.calleeOK Try.prog 45 = true := by kernel_rfl
theorem ok46 : XL.calleeOK Try.prog 46 = true := by kernel_rfl
theorem ok47 : XL.calleeOK Try.prog 47 = true := by kernel_rfl
theorem ok48 : XL.calleeOK Try.prog 48 = true := by kernel_rfl
theorem ok49 : XL.calleeOK Try.prog 49 = true := by kernel_rfl
theorem ok50 : XL.calleeOK Try.prog 50 = true := by kernel_rfl
theorem ok51 : XL.calleeOK Try.prog 51 = true := by kernel_rfl
theorem ok52 : XL.calleeOK Try.prog 52 = true := by kernel_rfl
theorem ok53 : XL.calleeOK Try.prog 53 = true := by kernel_rfl
open Go Go.XL
theorem splice_eq (vs cs : List Value) (o : Nat) (h : o + vs.length ≤ cs.length) : splice cs o vs = cs.take o ++ vs ++ cs.drop (o + vs.length) := by
  refine List.ext_getElem? (fun k => ?_)
  rw [splice_get]
  have h1 : (cs.take o).length = o := by rw [List.length_take]; omega
  have h2 : (cs.take o ++ vs).length = o + vs.length := by rw [List.length_append, h1]
  by_cases q : k < o
  · rw [if_pos (by omega), if_neg (by omega), List.getElem?_append_left (by omega), List.getElem?_append_left (by omega), List.getElem?_take_of_lt q]
  · by_cases q2 : k < o + vs.length
    · rw [if_pos (by omega), if_pos ⟨by omega, q2⟩, List.getElem?_append_left (by omega), List.getElem?_append_right (by omega), h1]
    · rw [List.getElem?_append_right (by omega), h2, List.getElem?_drop]
      by_cases q3 : k < cs.length
      · rw [if_pos q3, if_neg (by omega), show o + vs.length + (k - (o + vs.length)) = k by omega]
      · rw [if_neg q3, List.getElem?_eq_none (by omega)]
theorem flat_take {s : Nat} {R : List (List Value)} (h : ∀ r ∈ R, r.length = s) (o : Nat) (ho : o ≤ R.length) : (R.take o).flatten = R.flatten.take (o * s) ∧ (R.drop o).flatten = R.flatten.drop (o * s) := by
  have hl : (R.take o).flatten.length = o * s := by
    rw [flat_len _ (fun r hr => h r (List.mem_of_mem_take hr)), List.length_take, Nat.min_eq_left ho]
  have e : R.flatten = (R.take o).flatten ++ (R.drop o).flatten := by rw [← List.flatten_append, List.take_append_drop]
  rw [e, ← hl]
  exact ⟨List.take_left.symm, List.drop_left.symm⟩
def blit (R : List (List Value)) (o : Nat) (l : List (List Value)) : List (List Value) := R.take o ++ l ++ R.drop (o + l.length)
theorem blit_len {R l : List (List Value)} {o : Nat} (h : o + l.length ≤ R.length) : (blit R o l).length = R.length := by
  unfold blit; rw [List.length_append, List.length_append, List.length_take, List.length_drop]; omega
theorem blit_rows {s : Nat} {R l : List (List Value)} {o : Nat} (hR : ∀ r ∈ R, r.length = s) (hl : ∀ r ∈ l, r.length = s) : ∀ r ∈ blit R o l, r.length = s := by
  intro r hr
  unfold blit at hr
  rcases List.mem_append.1 hr with hr | hr
  · rcases List.mem_append.1 hr with hr | hr
    · exact hR r (List.mem_of_mem_take hr)
    · exact hl r hr
  · exact hR r (List.mem_of_mem_drop hr)
theorem blit_take {R l : List (List Value)} {o : Nat} (h : o + l.length ≤ R.length) : (blit R o l).take o = R.take o ∧ (blit R o l).take (o + l.length) = R.take o ++ l := by
  unfold blit
  have h1 : (R.take o).length = o := by rw [List.length_take]; omega
  have h2 : (R.take o ++ l).length = o + l.length := by rw [List.length_append, h1]
  constructor
  · rw [List.append_assoc, List.take_append_of_le_length (by omega), List.take_of_length_le (by omega)]
  · rw [List.take_append_of_le_length (by omega), List.take_of_length_le (by omega)]
theorem Has.slN {w : World} {b : Nat} {e : TypeId} {s : Nat} {R : List (List Value)} (h : Has w b R.flatten e) (hR : ∀ r ∈ R, r.length = s) (k : Nat) : Sl w (some ⟨b, 0, none⟩) s (R.take k) := (h.sl0 hR).take k
theorem sl_at {g lo cap m c s : Nat} (h : ¬ cap = lo) : Value.slice (if cap = lo then some ⟨g, 0, none⟩ else (some ⟨g, 0, none⟩ : Option Addr).map (·.add (lo * s))) m c = .slice (some ⟨g, lo * s, none⟩) m c := by
  rw [if_neg h]; simp [Addr.add_lit]
theorem sl_drop_at {w : World} {g s : Nat} {R : List (List Value)} (h : Sl w (some ⟨g, 0, none⟩) s R) (i : Nat) : Sl w (some ⟨g, i * s, none⟩) s (R.drop i) := by
  refine ⟨fun _ => rfl, fun j r hr => ?_⟩
  rw [List.getElem?_drop] at hr
  have := h.row (i + j) r hr
  simp only [Option.getD_some, Addr.add_lit] at this ⊢
  rw [← Nat.add_mul]
  simpa using this
theorem splice_blit {s : Nat} {R l : List (List Value)} {o : Nat} (hR : ∀ r ∈ R, r.length = s) (hl : ∀ r ∈ l, r.length = s) (h : o + l.length ≤ R.length) : splice R.flatten (o * s) l.flatten = (blit R o l).flatten := by
  have e1 := flat_len R hR
  have e2 := flat_len l hl
  have e3 : (o + l.length) * s ≤ R.length * s := Nat.mul_le_mul_right _ h
  rw [splice_eq _ _ _ (by rw [e1, e2, ← Nat.add_mul]; exact e3)]
  unfold blit
  rw [List.flatten_append, List.flatten_append, (flat_take hR o (by omega)).1, (flat_take hR (o + l.length) h).2, e2, ← Nat.add_mul]
theorem Sl.flatRow {w : World} {ad : Addr} {s : Nat} {l : List (List Value)} (hs' : 0 < s) (hll : ∀ r ∈ l, r.length = s) (hsl : Sl w (some ad) s l) : Row w ad l.flatten := by
  intro j u hj
  have hjl : j < l.length * s := by
    rw [← flat_len l hll]
    rcases Nat.lt_or_ge j l.flatten.length with q | q
    · exact q
    · rw [List.getElem?_eq_none q] at hj; cases hj
  have hd' : j / s < l.length := (Nat.div_lt_iff_lt_mul hs').2 hjl
  have hmod : j % s < s := Nat.mod_lt _ hs'
  have ej : j = (j / s) * s + j % s := by rw [Nat.mul_comm]; exact (Nat.div_add_mod j s).symm
  obtain ⟨r, hr⟩ : ∃ r, l[j / s]? = some r := ⟨_, List.getElem?_eq_getElem hd'⟩
  have hf := flat_get l hll (j / s) (j % s) r hr hmod
  rw [← ej, hj] at hf
  have hc := hsl.row (j / s) r hr (j % s) u hf.symm
  simp only [Option.getD_some] at hc
  rw [← hc]
  congr 1
  rw [ej]
  obtain ⟨bb, oo, sp⟩ := ad
  unfold Addr.add
  by_cases q1 : (j / s) * s = 0
  · rw [← ej]
    by_cases q2 : j % s = 0
    · rw [if_pos (by omega), if_pos q1, if_pos q2]
    · rw [if_neg (by omega), if_pos q1, if_neg q2]; simp only; congr 2; omega
  · rw [← ej]
    by_cases q2 : j % s = 0
    · rw [if_neg (by omega), if_neg q1, if_pos q2]; congr 1; omega
    · rw [if_neg (by omega), if_neg q1, if_neg q2]; simp only; congr 1; omega
theorem plain_flat {l : List (List Value)} (hp : l.all (fun r => r.all plainV) = true) : l.flatten.all plainV = true := by
  rw [List.all_eq_true]
  intro u hu
  obtain ⟨r, hr, hur⟩ := List.mem_flatten.1 hu
  exact List.all_eq_true.1 (List.all_eq_true.1 hp r hr) u hur
section
variable {P : Program} {n : Cx} {F : List (Nat × Value)} {w : World} {p : Post} {ops : Array Oper} {rest : List Oper} {d : Option Tmp} {t : TypeId} {pos : String} {af : Array Edge} {g : Option (Nat × Bool)}
theorem run_copyB {ty ty2 t : TypeId} {b o m c : Nat} {sa : Option Addr} {k c2 e s by_ e0 : Nat} {R l : List (List Value)} (ht : sliceOf P ty = some (e, s, by_)) (hs' : 0 < s) (hb : Has w b R.flatten e0) (hR : ∀ r ∈ R, r.length = s) (ho : o + min k m ≤ R.length) (hs : Sl w sa s l) (hk : k = l.length) (hl : ∀ r ∈ l, r.length = s) (hp : (l.take (min k m)).all (fun r => r.all plainV) = true) :
    ∃ w', (Builtin.copy_ #[ty, ty2] t #[.slice (some ⟨b, o * s, none⟩) m c, .slice sa k c2]).run P w = .ok (.int .i64 (min k m : Nat)) w' ∧ Has w' b (blit R o (l.take (min k m))).flatten e0 ∧ Agr (· = b) w w' ∧ w'.heap.size = w.heap.size := by
  obtain ⟨h1, i, h2, h3, h4⟩ := sliceOf_spec ht
  have hl' : ∀ r ∈ l.take (min k m), r.length = s := fun r hr => hl r (List.mem_of_mem_take hr)
  have hpl : (l.take (min k m)).flatten.all plainV = true := plain_flat hp
  have hlen : (l.take (min k m)).length = min k m := by rw [List.length_take]; omega
  have hfl : (l.take (min k m)).flatten.length = min k m * s := by rw [flat_len _ hl', hlen]
  have hcells : (Builtin.firstCells i.size (min k m) (.slice sa k c2)).run P w = .ok (l.take (min k m)).flatten.toArray w := by
    cases sa with
    | none =>
      have : l = [] := Classical.byContradiction fun e => by have := hs.some e; simp at this
      subst this
      simp [Builtin.firstCells, pure]
    | some a =>
      have hr := XL.run_loadCells (P := P) (Sl.flatRow hs' hl' (hs.take (min k m)))
      rw [hfl] at hr
      rw [h3]; exact hr
  have hfit : o * s + 0 + (l.take (min k m)).flatten.length ≤ R.flatten.length := by
    rw [hfl, flat_len R hR, Nat.add_zero, ← Nat.add_mul]; exact Nat.mul_le_mul_right _ ho
  obtain ⟨w', g1, g2, g3, g4⟩ := XL.run_storeCells (P := P) (o := o * s) (l.take (min k m)).flatten 0 R.flatten w hb hfit hpl
  refine ⟨w', ?_, ?_, g3, g4⟩
  · have hcells' : (Builtin.firstCells i.size (Nat.min k m) (.slice sa k c2)).run P w = .ok (l.take (min k m)).flatten.toArray w := hcells
    simp [Builtin.copy_, Go.run_underlying h1, sizeOf, typeInfo, h2, Builtin.lenOf, hcells', g1, goInt]
  · rw [Nat.add_zero, splice_blit hR hl' (by rw [hlen]; exact ho)] at g2
    exact g2
theorem RL.copyB {ty ty2 x y b o m c sa k c2 e s by_ e0 R l} (ht : sliceOf P ty = some (e, s, by_)) (hs' : Nat.blt 0 s = true) (hx : XL.ev F x = some (.slice (some ⟨b, o * s, none⟩) m c)) (hy : XL.ev F y = some (.slice sa k c2)) (hb : Has w b R.flatten e0) (hR : ∀ r ∈ R, r.length = s) (ho : o + min k m ≤ R.length) (hs : Sl w sa s l) (hk : k = l.length) (hl : ∀ r ∈ l, r.length = s) (hp : (l.take (min k m)).all (fun r => r.all plainV) = true)
    (hg : gsat ops F g = some true) (hd : inB d n = true)
    (h : ∀ w', w'.heap.size = w.heap.size → Has w' b (blit R o (l.take (min k m))).flatten e0 → Agr (· = b) w w' → RL P n ops rest (upd F d (.int .i64 (min k m : Nat))) w' p) : RL P n ops (⟨d, .call ⟨.builtin .copy, #[x, y], #[ty, ty2]⟩, t, pos, af, g⟩ :: rest) F w p := by
  obtain ⟨w', g1, g2, g3, g4⟩ := run_copyB (ty2 := ty2) (t := t) (m := m) (c := c) (c2 := c2) ht (by simpa using hs') hb hR ho hs hk hl hp
  refine RL.on hg hd (fun ρ hρ => ?_) (h w' g4 g2 g3)
  simp only [execOp, resolve, hρ y _ hy, hρ x _ hx, bind, Sem.bind, pure, invoke, builtin, List.map_toArray, List.map_cons, List.map_nil]
  have := run_bind (P := P) (Builtin.copy_ #[ty, ty2] t #[.slice (some ⟨b, o * s, none⟩) m c, .slice sa k c2]) (fun v => (Sem.pure (Next.value v) : Sem Next)) w
  rw [g1] at this
  exact this
theorem firstCells_sl {w : World} {sa : Option Addr} {k c2 s : Nat} {l : List (List Value)} (hs' : 0 < s) (hs : Sl w sa s l) (hl : ∀ r ∈ l, r.length = s) (m : Nat) (hm : m ≤ l.length) : (Builtin.firstCells s m (.slice sa k c2)).run P w = .ok (l.take m).flatten.toArray w := by
  have hl' : ∀ r ∈ l.take m, r.length = s := fun r hr => hl r (List.mem_of_mem_take hr)
  have hfl : (l.take m).flatten.length = m * s := by rw [flat_len _ hl', List.length_take, Nat.min_eq_left hm]
  cases sa with
  | none =>
    have : l = [] := Classical.byContradiction fun e => by have := hs.some e; simp at this
    subst this
    simp [Builtin.firstCells, pure]
  | some a =>
    have hr := XL.run_loadCells (P := P) (Sl.flatRow hs' hl' (hs.take m))
    rw [hfl] at hr
    exact hr
theorem RL.appendB {ty x y b o c sa k c2 e s by_ R l} (ht : sliceOf P ty = some (e, s, by_)) (hs' : Nat.blt 0 s = true) (hy : XL.ev F y = some (.slice (some ⟨b, 0, none⟩) o c)) (hx : XL.ev F x = some (.slice sa k c2)) (hb : Has w b R.flatten e) (hR : ∀ r ∈ R, r.length = s) (hoc : o + k ≤ c) (ho : o + k ≤ R.length) (hs : Sl w sa s l) (hk : k = l.length) (hl : ∀ r ∈ l, r.length = s) (hp : l.all (fun r => r.all plainV) = true)
    (hg : gsat ops F g = some true) (hd : inB d n = true)
    (h : ∀ w', w'.heap.size = w.heap.size → Has w' b (blit R o l).flatten e → Agr (· = b) w w' → RL P n ops rest (upd F d (.slice (some ⟨b, 0, none⟩) (o + k) c)) w' p) : RL P n ops (⟨d, .call ⟨.builtin .append, #[y, x], #[ty, ty]⟩, t, pos, af, g⟩ :: rest) F w p := by
  have hs2 : 0 < s := by simpa using hs'
  obtain ⟨h1, i, h2, h3, h4⟩ := sliceOf_spec ht
  have hcells : (Builtin.firstCells i.size k (.slice sa k c2)).run P w = .ok l.flatten.toArray w := by
    have := firstCells_sl (P := P) (k := k) (c2 := c2) hs2 hs hl k (by omega)
    rw [h3, this, hk, List.take_length]
  have hfl : l.flatten.length = k * s := by rw [flat_len _ hl, hk]
  have hfit : o * s + 0 + l.flatten.length ≤ R.flatten.length := by
    rw [hfl, flat_len R hR, Nat.add_zero, ← Nat.add_mul]; exact Nat.mul_le_mul_right _ ho
  obtain ⟨w', g1, g2, g3, g4⟩ := XL.run_storeCells (P := P) (o := o * s) l.flatten 0 R.flatten w hb hfit (plain_flat hp)
  have hadd : (⟨b, 0, none⟩ : Addr).add (o * i.size) = ⟨b, o * s, none⟩ := by rw [Addr.add_lit, h3, Nat.zero_add]
  have hr : (Builtin.append_ #[ty, ty] t #[.slice (some ⟨b, 0, none⟩) o c, .slice sa k c2]).run P w = .ok (.slice (some ⟨b, 0, none⟩) (o + k) c) w' := by
    simp [Builtin.append_, Go.run_underlying h1, sizeOf, typeInfo, h2, Builtin.lenOf, hoc, hcells, hadd, g1]
  refine RL.on hg hd (fun ρ hρ => ?_) (h w' g4 (by rw [Nat.add_zero, splice_blit hR hl (by omega)] at g2; exact g2) g3)
  simp only [execOp, resolve, hρ y _ hy, hρ x _ hx, bind, Sem.bind, pure, invoke, builtin, List.map_toArray, List.map_cons, List.map_nil]
  have := run_bind (P := P) (Builtin.append_ #[ty, ty] t #[.slice (some ⟨b, 0, none⟩) o c, .slice sa k c2]) (fun v => (Sem.pure (Next.value v) : Sem Next)) w
  rw [hr] at this
  exact this
theorem RL.clearB {ty x b o m c e s by_ z} {R : List (List Value)} (ht : sliceOf P ty = some (e, s, by_)) (hz : zeroOf P e = some z) (hzs : z.cells.size = s) (hs' : Nat.blt 0 s = true) (hzp : z.cells.toList.all plainV = true) (hx : XL.ev F x = some (.slice (some ⟨b, o * s, none⟩) m c)) (hb : Has w b R.flatten e) (hR : ∀ r ∈ R, r.length = s) (ho : o + m ≤ R.length)
    (hg : gsat ops F g = some true) (hd : inB d n = true)
    (h : ∀ w', w'.heap.size = w.heap.size → Has w' b (blit R o (List.replicate m z.cells.toList)).flatten e → Agr (· = b) w w' → RL P n ops rest (upd F d (.tuple #[])) w' p) : RL P n ops (⟨d, .call ⟨.builtin .clear, #[x], #[ty]⟩, t, pos, af, g⟩ :: rest) F w p := by
  have hs2 : 0 < s := by simpa using hs'
  obtain ⟨h1, i, h2, h3, h4⟩ := sliceOf_spec ht
  obtain ⟨i', hi', hzz⟩ := zeroOf_spec hz
  rw [h2] at hi'; cases hi'
  have hl : ∀ r ∈ List.replicate m z.cells.toList, r.length = s := fun r hr => by rw [(List.mem_replicate.1 hr).2, Array.length_toList, hzs]
  have hfl : (List.replicate m z.cells.toList).flatten.length = m * s := by rw [flat_len _ hl, List.length_replicate]
  have hfit : o * s + 0 + (List.replicate m z.cells.toList).flatten.length ≤ R.flatten.length := by
    rw [hfl, flat_len R hR, Nat.add_zero, ← Nat.add_mul]; exact Nat.mul_le_mul_right _ ho
  have hpl : (List.replicate m z.cells.toList).flatten.all plainV = true := plain_flat (by rw [List.all_eq_true]; intro r hr; rw [(List.mem_replicate.1 hr).2]; exact hzp)
  obtain ⟨w', g1, g2, g3, g4⟩ := XL.run_storeCells (P := P) (o := o * s) (List.replicate m z.cells.toList).flatten 0 R.flatten w hb hfit hpl
  have g2 : Has w' b (blit R o (List.replicate m z.cells.toList)).flatten e := by rw [Nat.add_zero, splice_blit hR hl (by rw [List.length_replicate]; exact ho)] at g2; exact g2
  have hzc : Builtin.zeroCells z.cells m = (List.replicate m z.cells.toList).flatten.toArray := by
    unfold Builtin.zeroCells
    exact zeros_list z.cells (by omega) m
  have fin : ∀ w'', (Builtin.clear_ #[ty] t #[.slice (some ⟨b, o * s, none⟩) m c]).run P w = .ok (.tuple #[]) w'' → RL P n ops rest (upd F d (.tuple #[])) w'' p → RL P n ops (⟨d, .call ⟨.builtin .clear, #[x], #[ty]⟩, t, pos, af, g⟩ :: rest) F w p := by
    intro w'' hr hw
    refine RL.on hg hd (fun ρ hρ => ?_) hw
    simp only [execOp, resolve, hρ x _ hx, bind, Sem.bind, pure, invoke, builtin, List.map_toArray, List.map_cons, List.map_nil]
    have := run_bind (P := P) (Builtin.clear_ #[ty] t #[.slice (some ⟨b, o * s, none⟩) m c]) (fun v => (Sem.pure (Next.value v) : Sem Next)) w
    rw [hr] at this
    exact this
  cases m with
  | zero =>
    refine fin w (by simp [Builtin.clear_, Go.run_underlying h1]) (h w rfl ?_ (Agr.refl _ _))
    simpa [blit] using hb
  | succ m =>
    exact fin w' (by simp [Builtin.clear_, Go.run_underlying h1, zeroValue, typeInfo, h2, hzz, hzc, g1]) (h w' g4 g2 g3)
theorem RL.appendZ {ty tn x y b o c k e s by_ z kq kn} {R : List (List Value)} (ht : sliceOf P ty = some (e, s, by_)) (htn : P.underlying tn = some (.int kn)) (hz : zeroOf P e = some z) (hzs : z.cells.size = s) (hs' : Nat.blt 0 s = true) (hy : XL.ev F y = some (.slice (some ⟨b, 0, none⟩) o c)) (hx : XL.ev F x = some (.int kq (k : Nat))) (hb : Has w b R.flatten e) (hR : ∀ r ∈ R, r.length = s) (hk : 0 < k) (hoc : c < o + k) (ho : o ≤ R.length)
    (hlen : (o + k) * by_ ≤ 140737488355328) (hlen' : o + k ≤ 140737488355328) (hg : gsat ops F g = some true) (hd : inB d n = true)
    (h : ∀ b' w' cap ex, b' = w.heap.size → o + k ≤ cap → Has w' b' (R.take o ++ List.replicate k z.cells.toList ++ List.replicate ex z.cells.toList).flatten e → cap = o + k + ex → Sub w w' → RL P n ops rest (upd F d (.slice (some ⟨b', 0, none⟩) (o + k) cap)) w' p) : RL P n ops (⟨d, .call ⟨.builtin .append, #[y, x], #[ty, tn]⟩, t, pos, af, g⟩ :: rest) F w p := by
  have hs2 : 0 < s := by simpa using hs'
  obtain ⟨h1, i, h2, h3, h4⟩ := sliceOf_spec ht
  obtain ⟨i', hi', hzz⟩ := zeroOf_spec hz
  rw [h2] at hi'; cases hi'
  have hold : (Builtin.firstCells i.size o (.slice (some ⟨b, 0, none⟩) o c)).run P w.drew = .ok (R.take o).flatten.toArray w.drew := by
    have hb' : Has w.drew b R.flatten e := hb
    rw [h3]
    exact firstCells_sl hs2 (hb'.sl0 hR) hR o ho
  have hge := grownCap_ge w (o + k) c e
  have hby : k * by_ ≤ (o + k) * by_ := Nat.mul_le_mul_right _ (by omega)
  have hr := Go.Lib.run_append_grow_zeros (P := P) w ty tn t e i z kq kn h1 htn h2 hzz (some ⟨b, 0, none⟩) o c (R.take o).flatten hold k hk (by omega) hoc (by omega) (by rw [h4]; omega) (growslice_fits (by omega) (by rw [h4]; exact hlen))
  have hzc : ∀ m, Builtin.zeroCells z.cells m = (List.replicate m z.cells.toList).flatten.toArray := fun m => by
    unfold Builtin.zeroCells
    exact zeros_list z.cells (by omega) m
  rw [hzc, hzc] at hr
  refine RL.on hg hd (fun ρ hρ => ?_) (h w.heap.size (w.drew.alloc (.cells ((R.take o).flatten.toArray ++ (List.replicate k z.cells.toList).flatten.toArray ++ (List.replicate (grownCap w (o + k) c e - (o + k)) z.cells.toList).flatten.toArray) e)) (grownCap w (o + k) c e) (grownCap w (o + k) c e - (o + k)) rfl hge ?_ (by omega) ⟨rfl, rfl, rfl, by simp, fun k hk => heap_alloc_old' w.drew _ hk⟩)
  · simp only [execOp, resolve, hρ y _ hy, hρ x _ hx, bind, Sem.bind, pure, invoke, builtin, List.map_toArray, List.map_cons, List.map_nil]
    have := run_bind (P := P) (Builtin.append_ #[ty, tn] t #[.slice (some ⟨b, 0, none⟩) o c, .int kq (k : Nat)]) (fun v => (Sem.pure (Next.value v) : Sem Next)) w
    rw [hr] at this
    exact this
  · have := heap_alloc_new w.drew (.cells ((R.take o).flatten.toArray ++ (List.replicate k z.cells.toList).flatten.toArray ++ (List.replicate (grownCap w (o + k) c e - (o + k)) z.cells.toList).flatten.toArray) e)
    unfold Has
    simp only [List.flatten_append]
    simpa using this
theorem RL.overlapsF {f : FuncId} {fn : Func} {x y : Operand} {ts : Array TypeId} {tS tR e1 : TypeId} {a b : Addr} {la ca lb cb s by_ : Nat} {xs ys : List Value} {ea eb : TypeId} (hf : P.funcs[f]? = some fn) (hname : (fn.name == "runtime.NumGoroutine") = false) (hbd : fn.body.isNone = true) (hn : Extern.findNext fn = none) (he : Extern.find fn = some (Extern.SlicesOverlaps.overlaps #[tS, tS] #[tR]))
    (ht : sliceOf P tS = some (e1, s, by_)) (hx : XL.ev F x = some (.slice (some a) la ca)) (hy : XL.ev F y = some (.slice (some b) lb cb)) (ha : Has w a.block xs ea) (hb : Has w b.block ys eb) (hne : a.block ≠ b.block) (hys : ys ≠ [])
    (hg : gsat ops F g = some true) (hd : inB d n = true) (h : RL P n ops rest (upd F d (.bool false)) w p) : RL P n ops (⟨d, .call ⟨.value (.func f), #[x, y], ts⟩, t, pos, af, g⟩ :: rest) F w p := by
  obtain ⟨h1, i, h2, h3, h4⟩ := sliceOf_spec ht
  refine RL.on hg hd (v := .bool false) (w' := w) (fun ρ hρ => ?_) h
  have h0 : ρ (.func f) = .func (.func f) #[] #[] := hρ _ _ rfl
  simp only [execOp, resolve, h0, hρ x _ hx, hρ y _ hy, Deferred.ofValue, bind, Sem.bind, pure, invoke, List.map_toArray, List.map_cons, List.map_nil]
  have hsh : ∀ {k cs e}, Has w k cs e → w.shape? k = some (e, cs.length) := fun {k cs e} h => by
    unfold Has at h; simp [World.shape?, h]
  have ho := Go.Lib.run_overlaps_apart (P := P) w tS tR e1 h1 i.size (fun w => by simp [sizeOf, typeInfo, h2]) a b la ca lb cb hne ea eb xs.length ys.length (hsh ha) (hsh hb) (by cases ys with | nil => exact absurd rfl hys | cons _ _ => simp) ha.free ha.free
  have := run_callFunc_extern (P := P) hf hname hbd hn he #[.slice (some a) la ca, .slice (some b) lb cb] w
  rw [ho] at this
  simpa using this
theorem _root_.Go.XL.EvOp.sliceLHM {ty x lo hi_ mx a m c k i k' u k2 v e s by_} (ht : sliceOf P ty = some (e, s, by_)) (hx : XL.ev F x = some (.slice a m c)) (hl : XL.ev F lo = some (.int k i)) (hi : XL.ev F hi_ = some (.int k' u)) (hm : XL.ev F mx = some (.int k2 v)) (hb : 0 ≤ i ∧ i ≤ u ∧ u ≤ v ∧ v ≤ c) :
    EvOp P F (.slice ty x (some lo) (some hi_) (some mx)) w (.slice (if v.toNat = i.toNat then a else a.map (·.add (i.toNat * s))) (u.toNat - i.toNat) (v.toNat - i.toNat)) := fun _ _ _ _ _ ρ hρ w' _ => by
  obtain ⟨h1, j, h2, h3, h4⟩ := sliceOf_spec ht
  simp only [execOp]
  refine run_val _ ?_
  simp only [Instr.sliceAt, hρ x _ hx, Option.map_some, hρ hi_ _ hi, hρ lo _ hl, hρ mx _ hm]
  rw [XL.run_underlying h1]
  simp only [Instr.slice]
  rw [XL.run_underlying h1]
  simp only [Instr.sliceBounds]
  rw [run_bind, run_bind, run_sliceBound (by omega)]
  simp only []
  rw [run_bind, run_sliceBound (by omega)]
  simp only []
  rw [run_bind, run_sliceBound (by omega)]
  simp only [pure, Sem.run]
  rw [XL.run_sizeOf h2, h3]
  rfl
theorem chunks {s : Nat} : ∀ (k : Nat) (l : List Value), l.length = k * s → ∃ R : List (List Value), R.length = k ∧ (∀ r ∈ R, r.length = s) ∧ R.flatten = l
  | 0, l, h => ⟨[], rfl, by simp, by rw [Nat.zero_mul] at h; rw [List.eq_nil_of_length_eq_zero h]; rfl⟩
  | k + 1, l, h => by
    have h2 : (l.drop s).length = k * s := by rw [List.length_drop, h, Nat.succ_mul]; omega
    obtain ⟨R, r1, r2, r3⟩ := chunks k (l.drop s) h2
    refine ⟨l.take s :: R, by rw [List.length_cons, r1], fun r hr => ?_, by rw [List.flatten_cons, r3, List.take_append_drop]⟩
    rcases List.mem_cons.1 hr with rfl | hr
    · rw [List.length_take, h, Nat.succ_mul]; omega
    · exact r2 r hr
theorem _root_.Go.XL.Ows.whole {base : Nat} {e : TypeId} {s : Nat} {v : Value} {rows : List (List Value)} (h : Ows base w e s v rows) :
    (v = .slice none 0 0 ∧ rows = []) ∨ ∃ g ex, v = .slice (some ⟨g, 0, none⟩) rows.length (rows.length + ex.length) ∧ base ≤ g ∧ Has w g (rows ++ ex).flatten e ∧ (∀ r ∈ ex, r.length = s) ∧ rows.length + ex.length ≤ maxLen := by
  rcases h.own.2 with ⟨rfl, h0⟩ | ⟨g, cap, cur, rfl, hbg, hgh, hnc, hcm, hcs, htake⟩
  · exact .inl ⟨rfl, List.eq_nil_of_length_eq_zero h0⟩
  · obtain ⟨R, r1, r2, r3⟩ := chunks (s := s) (cap - rows.length) (cur.toList.drop (rows.length * s)) (by rw [List.length_drop, Array.length_toList, hcs, Nat.sub_mul])
    have e1 : rows.length + R.length = cap := by omega
    refine .inr ⟨g, R, by rw [e1], hbg, ?_, r2, by omega⟩
    unfold Has
    rw [List.flatten_append, r3, ← htake, List.take_append_drop]
    simpa using hgh
end
def pk (a c : Int) : Value := .agg #[.int .i64 a, .int .i64 c]
theorem pk_inj {a b c d : Int} : pk a b = pk c d ↔ a = c ∧ b = d := by simp [pk]
def HasP (w : World) (b : Nat) (f : Int → Int → Option Value) : Prop :=
  ∃ es clock, w.heap[b]? = some (.map es clock) ∧ (∀ x ∈ es.toList, ∃ a c, x.key = pk a c) ∧ ∀ a c v, f a c = some v ↔ ∃ x ∈ es.toList, x.key = pk a c ∧ x.val = v
theorem HasP.lt {w b f} (h : HasP w b f) : b < w.heap.size := by
  obtain ⟨es, c, h, _⟩ := h
  rcases Nat.lt_or_ge b w.heap.size with g | g
  · exact g
  · rw [Array.getElem?_eq_none g] at h; cases h
theorem HasP.step {N : Nat → Prop} {w w' b f} (h : HasP w b f) (k : Agr N w w') (hn : ¬ N b) : HasP w' b f := by
  obtain ⟨es, c, h1, h2⟩ := id h
  exact ⟨es, c, (k.block b h.lt hn).trans h1, h2⟩
theorem HasP.sub {w w' b f} (h : HasP w b f) (k : Sub w w') : HasP w' b f := h.step (N := fun _ => False) k.agr id
structure PairT (P : Program) (kt : TypeId) (f1 f2 : Field) : Prop where
  hu : P.underlying kt = some (.struct #[f1, f2])
  n1 : (f1.name != "_") = true
  n2 : (f2.name != "_") = true
  h1 : P.underlying f1.type = some (.int .i64)
  h2 : P.underlying f2.type = some (.int .i64)
  o1 : f1.offset = 0
  o2 : f2.offset = 1
  hk : flatK P 6 kt = some [some .i64, some .i64]
  hs : shapeOf P kt = some (true, 2)
section
variable {P : Program} {kt : TypeId} {f1 f2 : Field} {w : World}
theorem run_checkPair (h : PairT P kt f1 f2) (em : Bool) (n : Nat) (x y : Int) : (Instr.checkKey em (n + 2) kt (pk x y)).run P w = .ok () w := by
  have n1 : f1.name ≠ "_" := by simpa using h.n1
  have n2 : f2.name ≠ "_" := by simpa using h.n2
  have p1 : P.plainKey f1.type = true := by simp [Program.plainKey, h.h1]
  have p2 : P.plainKey f2.type = true := by simp [Program.plainKey, h.h2]
  have e1 := run_part_plain (P := P) w p1 (xs := #[.int .i64 x, .int .i64 y]) (off := f1.offset) (v := .int .i64 x) (by rw [h.o1]; rfl)
  have e2 := run_part_plain (P := P) w p2 (xs := #[.int .i64 x, .int .i64 y]) (off := f2.offset) (v := .int .i64 y) (by rw [h.o2]; rfl)
  have c1 : (Instr.checkKey em (n + 1) f1.type (.int .i64 x)).run P w = .ok () w := by simp [Instr.checkKey, run_underlying h.h1]
  have c2 : (Instr.checkKey em (n + 1) f2.type (.int .i64 y)).run P w = .ok () w := by simp [Instr.checkKey, run_underlying h.h2]
  unfold pk
  rw [Instr.checkKey]
  simp [run_underlying h.hu, n1, n2, e1, e2, c1, c2]
theorem run_equalPair (h : PairT P kt f1 f2) (a b c d : Int) : (Op.equal kt (pk a b) (pk c d)).run P w = .ok (decide (a = c ∧ b = d)) w := by
  have := run_equal_flat (P := P) (w := w) (xs := [.int .i64 a, .int .i64 b]) (ys := [.int .i64 c, .int .i64 d]) h.hk h.hs rfl rfl rfl
  refine Eq.trans this ?_
  congr 1
  rw [Bool.eq_iff_iff, decide_eq_true_iff]
  simp [eqL, eq1]
theorem run_findPair (h : PairT P kt f1 f2) (a b : Int) : ∀ (es : List MapEntry) (i : Nat), (∀ x ∈ es, ∃ a c, x.key = pk a c) →
    (∃ o, (Instr.findAsking kt (pk a b) es i).run P w = .ok o w ∧ ((o = none ∧ ∀ x ∈ es, ¬ x.key = pk a b) ∨ ∃ j x, o = some (j, x.val) ∧ x ∈ es ∧ x.key = pk a b))
  | [], i, _ => ⟨none, by simp [Instr.findAsking], .inl ⟨rfl, by simp⟩⟩
  | x :: es, i, hk => by
    obtain ⟨c, d, hx⟩ := hk x (by simp)
    have he := run_equalPair (w := w) h a b c d
    by_cases q : a = c ∧ b = d
    · refine ⟨some (i, x.val), ?_, .inr ⟨i, x, rfl, by simp, by rw [hx, q.1, q.2]⟩⟩
      rw [Instr.findAsking, hx]
      rw [run_bind, he, decide_eq_true q]
      rfl
    · obtain ⟨o, h1, h2⟩ := run_findPair h a b es (i + 1) (fun y hy => hk y (by simp [hy]))
      refine ⟨o, ?_, ?_⟩
      · rw [Instr.findAsking, hx]
        rw [run_bind, he, decide_eq_false q]
        exact h1
      · rcases h2 with ⟨h2, h3⟩ | ⟨j, y, h2, h3, h4⟩
        · refine .inl ⟨h2, fun y hy => ?_⟩
          rcases List.mem_cons.1 hy with rfl | hy
          · rw [hx]; intro e; exact q ⟨(pk_inj.1 e).1.symm, (pk_inj.1 e).2.symm⟩
          · exact h3 y hy
        · exact .inr ⟨j, y, h2, by simp [h3], h4⟩
theorem run_findKeyPair (h : PairT P kt f1 f2) (a b : Int) (es : List MapEntry) (hk : ∀ x ∈ es, ∃ a c, x.key = pk a c) :
    (∃ o, (Instr.findKey kt (pk a b) es).run P w = .ok o w ∧ ((o = none ∧ ∀ x ∈ es, ¬ x.key = pk a b) ∨ ∃ j x, o = some (j, x.val) ∧ x ∈ es ∧ x.key = pk a b)) := by
  obtain ⟨o, h1, h2⟩ := run_findPair (w := w) h a b es 0 hk
  have e : (Instr.findKey kt (pk a b) es).run P w = (Instr.findAsking kt (pk a b) es).run P w := run_findKey_eq w (by rw [h.hu]) (pk a b) es
  exact ⟨o, e.trans h1, h2⟩
end
section
variable {P : Program} {n : Cx} {F : List (Nat × Value)} {w : World} {p : Post} {ops : Array Oper} {rest : List Oper} {d : Option Tmp} {t : TypeId} {pos : String} {af : Array Edge} {g : Option (Nat × Bool)} {kt et : TypeId} {f1 f2 : Field}
theorem _root_.Go.XL.EvOp.lookupP {ty m x z b a c} {f : Int → Int → Option Value} (hm : P.underlying ty = some (.map kt et)) (hp : PairT P kt f1 f2) (hz : zeroOf P et = some z) (hx : XL.ev F m = some (.map (some b))) (hk : XL.ev F x = some (pk a c)) (h : HasP w b f) :
    EvOp P F (.lookup ty m x true) w (.tuple #[(f a c).getD z, .bool (f a c).isSome]) := fun _ _ _ _ _ ρ hρ w' s => by
  obtain ⟨es, cl, h1, h3, h4⟩ := h.sub s
  simp only [execOp, hρ m _ hx, hρ x _ hk]
  refine run_val _ ?_
  have hck := run_checkPair (P := P) (w := w') hp es.isEmpty 9998 a c
  obtain ⟨o, g1, g2⟩ := run_findKeyPair (P := P) (w := w') hp a c es.toList h3
  have hf : f a c = o.map (·.2) := by
    rcases g2 with ⟨g2, g3⟩ | ⟨j, y, g2, g3, g4⟩
    · rw [g2]
      cases hq : f a c with
      | none => rfl
      | some v => obtain ⟨y, hy, hyk, _⟩ := (h4 a c v).1 hq; exact absurd hyk (g3 y hy)
    · rw [g2]; exact (h4 a c y.val).2 ⟨y, g3, g4, rfl⟩
  rw [hf]
  cases o with
  | none => simp [Instr.lookup, Go.run_underlying hm, Go.MapKept.run_getObj_map h1, hck, g1, Result.andThen, run_zeroValue' hz]
  | some q => simp [Instr.lookup, Go.run_underlying hm, Go.MapKept.run_getObj_map h1, hck, g1, Result.andThen]
theorem RL.makeMapP {ty} (hg : gsat ops F g = some true) (hd : inB d n = true)
    (h : ∀ b w', b = w.heap.size → w'.heap.size = b + 1 → HasP w' b (fun _ _ => none) → Sub w w' → RL P n ops rest (upd F d (.map (some b))) w' p) : RL P n ops (⟨d, .makeMap ty none, t, pos, af, g⟩ :: rest) F w p := by
  refine RL.on hg hd (w' := w.alloc (.map #[] 0)) (fun ρ hρ => ?_) (h _ _ rfl (by simp) ⟨#[], 0, heap_alloc_new w _, by simp, fun a c v => by simp⟩ ⟨rfl, rfl, rfl, by simp, fun k hk => heap_alloc_old' w _ hk⟩)
  simp only [execOp]
  refine run_val _ ?_
  simp [Instr.makeMap, Result.andThen]
theorem RL.insertP {ty m x y v b a c} {f : Int → Int → Option Value} (hm : P.underlying ty = some (.map kt et)) (hp : PairT P kt f1 f2) (hx : XL.ev F m = some (.map (some b))) (hk : XL.ev F x = some (pk a c)) (hy : XL.ev F y = some v) (hb : HasP w b f) (hf : f a c = none) (hg : gsat ops F g = some true)
    (h : ∀ w', w'.heap.size = w.heap.size → HasP w' b (fun i k => if i = a ∧ k = c then some v else f i k) → Agr (· = b) w w' → RL P n ops rest F w' p) : RL P n ops (⟨none, .insert ty m x y, t, pos, af, g⟩ :: rest) F w p := by
  obtain ⟨es, cl, h1, h3, h4⟩ := hb
  have hck := run_checkPair (P := P) (w := w) hp false 9998 a c
  have agr : ∀ o, Agr (· = b) w { w with heap := w.heap.setIfInBounds b o } := fun o => ⟨rfl, rfl, rfl, by simp, fun k _ hk => (Go.MapKept.heap_set h1).2 k hk⟩
  obtain ⟨o, g1, g2⟩ := run_findKeyPair (P := P) (w := w) hp a c es.toList h3
  have ho : o = none := by
    rcases g2 with ⟨g2, _⟩ | ⟨j, y, _, g3, g4⟩
    · exact g2
    · have := (h4 a c y.val).2 ⟨y, g3, g4, rfl⟩; rw [hf] at this; cases this
  subst ho
  have g3 : ∀ x ∈ es.toList, ¬ x.key = pk a c := by
    intro y hy e
    have := (h4 a c y.val).2 ⟨y, hy, e, rfl⟩; rw [hf] at this; cases this
  refine RL.on_skip hg (w' := { w with heap := w.heap.setIfInBounds b (.map (es.push ⟨pk a c, v, cl⟩) (cl + 1)) }) (fun ρ hρ => ?_) (h _ (by simp) ⟨_, _, (Go.MapKept.heap_set h1).1, ?_, ?_⟩ (agr _))
  · simp only [execOp, hρ m _ hx, hρ x _ hk, hρ y _ hy]
    simp [Instr.mapUpdate, Go.run_underlying hm, Go.MapKept.run_getObj_map h1, hck, g1, Go.MapKept.run_setObj_map _ h1, Result.andThen]
  · intro z hz
    simp only [Array.toList_push, List.mem_append, List.mem_singleton] at hz
    rcases hz with hz | rfl
    · exact h3 z hz
    · exact ⟨a, c, rfl⟩
  · intro i k u
    simp only [Array.toList_push, List.mem_append, List.mem_singleton]
    by_cases hi : i = a ∧ k = c
    · obtain ⟨rfl, rfl⟩ := hi
      simp only [and_self, if_true, Option.some.injEq]
      constructor
      · rintro rfl; exact ⟨_, .inr rfl, rfl, rfl⟩
      · rintro ⟨z, hz | rfl, hz2, hz3⟩
        · exact absurd hz2 (g3 z hz)
        · exact hz3
    · rw [if_neg hi, h4]
      constructor
      · rintro ⟨z, hz, hz2⟩; exact ⟨z, .inl hz, hz2⟩
      · rintro ⟨z, hz | rfl, hz2, hz3⟩
        · exact ⟨z, hz, hz2, hz3⟩
        · exact absurd ⟨(pk_inj.1 hz2).1.symm, (pk_inj.1 hz2).2.symm⟩ hi
end
section
variable {P : Program} {n : Cx} {F : List (Nat × Value)} {w : World} {p : Post} {l : List Oper} {N : Nat → Prop} {Wr : List Nat} {B : Nat}
structure LE where
  i : Nat
  a : Int
  c : Int
  v : Value
def litF (T : List LE) (L : Array Bool) (a c : Int) : Option Value := (T.find? fun e => decide (e.a = a ∧ e.c = c) && L.getD e.i true).map (·.v)
theorem getD_true {L : Array Bool} {i j : Nat} (h : L.getD i true = false) : (L.setIfInBounds i true).getD j true = if j = i then true else L.getD j true := by
  have hi : i < L.size := by
    rcases Nat.lt_or_ge i L.size with g | g
    · exact g
    · simp [Array.getD, Nat.not_lt.2 g] at h
  simp only [Array.getD_eq_getD_getElem?, Array.getElem?_setIfInBounds]
  by_cases e : j = i
  · subst e; simp [hi]
  · simp [e, Ne.symm e]
theorem getD_truef {L : Array Bool} {i j : Nat} (h : L.getD j false = true) : (L.setIfInBounds i true).getD j false = true := by
  simp only [Array.getD_eq_getD_getElem?, Array.getElem?_setIfInBounds] at h ⊢
  by_cases e : i = j
  · subst e
    cases hq : L[i]? with
    | none => rw [hq] at h; simp at h
    | some v =>
      have hi : i < L.size := (Array.getElem?_eq_some_iff.1 hq).1
      simp [hi]
  · simp [e]; simpa using h
theorem nodup_inj {α β : Type} {f : α → β} : ∀ {l : List α}, (l.map f).Nodup → ∀ {x y : α}, x ∈ l → y ∈ l → f x = f y → x = y
  | [], _, _, _, h, _, _ => by cases h
  | z :: l, hn, x, y, hx, hy, e => by
    have hn := List.nodup_cons.1 (show (f z :: l.map f).Nodup from hn)
    rcases List.mem_cons.1 hx with rfl | hx2 <;> rcases List.mem_cons.1 hy with rfl | hy2
    · rfl
    · exact absurd (e ▸ List.mem_map_of_mem hy2) hn.1
    · exact absurd (e.symm ▸ List.mem_map_of_mem hx2) hn.1
    · exact nodup_inj hn.2 hx2 hy2 e
theorem find_congr {α : Type} {f g : α → Bool} : ∀ {l : List α}, (∀ x ∈ l, f x = g x) → l.find? f = l.find? g
  | [], _ => rfl
  | z :: l, h => by rw [List.find?_cons, List.find?_cons, h z (by simp), find_congr fun x hx => h x (by simp [hx])]
theorem lit_uniq {T : List LE} (hk : (T.map fun e => (e.a, e.c)).Nodup) {e e' : LE} (h : e ∈ T) (h' : e' ∈ T) (ha : e'.a = e.a) (hc : e'.c = e.c) : e' = e := nodup_inj hk h' h (by simp only [ha, hc])
theorem litF_new {T : List LE} (hk : (T.map fun e => (e.a, e.c)).Nodup) (hi : (T.map (·.i)).Nodup) {L : Array Bool} {e : LE} (he : e ∈ T) (hL : L.getD e.i true = false) :
    litF T L e.a e.c = none ∧ litF T (L.setIfInBounds e.i true) = fun a c => if a = e.a ∧ c = e.c then some e.v else litF T L a c := by
  constructor
  · unfold litF
    rw [List.find?_eq_none.2]
    · rfl
    intro x hx
    by_cases q : x.a = e.a ∧ x.c = e.c
    · rw [lit_uniq hk he hx q.1 q.2, hL]; simp
    · rw [decide_eq_false q]; simp
  · funext a c
    unfold litF
    by_cases q : a = e.a ∧ c = e.c
    · rw [if_pos q]
      obtain ⟨rfl, rfl⟩ := q
      cases hf : T.find? fun x => decide (x.a = e.a ∧ x.c = e.c) && (L.setIfInBounds e.i true).getD x.i true with
      | none =>
        have := List.find?_eq_none.1 hf e he
        rw [getD_true hL] at this
        simp at this
      | some y =>
        have h1 := List.find?_some hf
        have h2 := List.mem_of_find?_eq_some hf
        rw [Bool.and_eq_true, decide_eq_true_iff] at h1
        rw [lit_uniq hk he h2 h1.1.1 h1.1.2]; rfl
    · rw [if_neg q]
      congr 1
      refine find_congr (fun x hx => ?_)
      by_cases q2 : x.a = a ∧ x.c = c
      · have hne : x.i ≠ e.i := fun e2 => q (by rw [← nodup_inj hi hx he e2]; exact ⟨q2.1.symm, q2.2.symm⟩)
        rw [getD_true hL, if_neg hne]
      · rw [decide_eq_false q2]; simp
theorem cnt_set {T : List LE} (hi : (T.map (·.i)).Nodup) {L : Array Bool} {e : LE} (he : e ∈ T) (hL : L.getD e.i true = false) : (T.filter fun x => !(L.setIfInBounds e.i true).getD x.i true).length + 1 = (T.filter fun x => !L.getD x.i true).length := by
  induction T with
  | nil => cases he
  | cons x T ih =>
    have hn := List.nodup_cons.1 (show (x.i :: T.map (·.i)).Nodup from hi)
    by_cases q : x.i = e.i
    · have hno : ∀ y ∈ T, y.i ≠ e.i := fun y hy e2 => hn.1 (by rw [q, ← e2]; exact List.mem_map_of_mem hy)
      have h1 : (T.filter fun x => !(L.setIfInBounds e.i true).getD x.i true) = T.filter fun x => !L.getD x.i true := List.filter_congr fun y hy => by rw [getD_true hL, if_neg (hno y hy)]
      rw [List.filter_cons, List.filter_cons, getD_true hL, if_pos q, q, hL, h1]
      simp
    · have hm : e ∈ T := (List.mem_cons.1 he).resolve_left (fun h => q (by rw [h]))
      have := ih hn.2 hm
      rw [List.filter_cons, List.filter_cons, getD_true hL, if_neg q]
      cases L.getD x.i true <;> simp only [Bool.not_true, Bool.not_false, if_true, if_false, Bool.false_eq_true, List.length_cons] <;> omega
def blkB (l : List Oper) (L0 : Array Bool) (is : List Nat) : Bool := (List.range L0.size).all fun i => L0.getD i true || is.contains i || match l[i]? with
  | none => true
  | some o => (o.after.any fun g => Region.binds .any g && !(L0.getD g.on false) && !(is.contains g.on)) || is.all fun j => o.after.any fun g => Region.binds .any g && g.on == j
theorem blk_of {L0 : Array Bool} {T : List LE} (h : blkB l L0 (T.map (·.i)) = true) {L : Array Bool} (hs : L.size = L0.size) (hL : ∀ j, (∀ e ∈ T, e.i ≠ j) → L[j]? = L0[j]?) (hu : ∃ e ∈ T, L.getD e.i true = false) {i : Nat} (hr : i ∈ Region.ready .any l.toArray L) : ∃ e ∈ T, e.i = i := by
  obtain ⟨hun, o, ho, hall⟩ := mem_ready.1 hr
  refine Classical.byContradiction fun hno => ?_
  have hno : ∀ e ∈ T, e.i ≠ i := fun e he e2 => hno ⟨e, he, e2⟩
  have hi : i < L.size := by
    rcases Nat.lt_or_ge i L.size with g | g
    · exact g
    · simp [Array.getD, Nat.not_lt.2 g] at hun
  have h1 := List.all_eq_true.1 h i (by rw [List.mem_range, ← hs]; exact hi)
  have hc : (T.map (·.i)).contains i = false := by
    rw [Bool.eq_false_iff]; intro e
    obtain ⟨e', he', e2⟩ := List.mem_map.1 (List.contains_iff_mem.1 e)
    exact hno e' he' e2
  have hu0 : L0.getD i true = false := by
    rw [Array.getD_eq_getD_getElem?] at hun ⊢
    rw [← hL i hno]; exact hun
  rw [hc, hu0, show l[i]? = some o by simpa using ho] at h1
  simp only [Bool.false_or, Bool.or_eq_true] at h1
  rcases h1 with h1 | h1
  · obtain ⟨g, hg, hg2⟩ := Array.any_eq_true'.1 h1
    rw [Bool.and_eq_true, Bool.and_eq_true] at hg2
    have h3 := hall g hg hg2.1.1
    have hng : ∀ e ∈ T, e.i ≠ g.on := by
      intro e he e2
      have : (T.map (·.i)).contains g.on = true := List.contains_iff_mem.2 (List.mem_map.2 ⟨e, he, e2⟩)
      rw [this] at hg2; simp at hg2
    rw [Array.getD_eq_getD_getElem?, hL g.on hng, ← Array.getD_eq_getD_getElem?] at h3
    rw [h3] at hg2; simp at hg2
  · obtain ⟨e, he, heu⟩ := hu
    have h3 := List.all_eq_true.1 h1 e.i (List.mem_map_of_mem he)
    obtain ⟨g, hg, hg2⟩ := Array.any_eq_true'.1 h3
    rw [Bool.and_eq_true, beq_iff_eq] at hg2
    have h4 := hall g hg hg2.1
    rw [hg2.2] at h4
    have : L.getD e.i true = true := by
      rw [Array.getD_eq_getD_getElem?] at h4 ⊢
      cases hq : L[e.i]? with
      | none => rfl
      | some v => rw [hq] at h4; exact h4
    rw [this] at heu; cases heu
def litL (L0 : Array Bool) (T : List LE) : Array Bool := (T.map (·.i)).foldl (fun L i => L.setIfInBounds i true) L0
theorem litL_size (L0 : Array Bool) : ∀ T : List LE, (litL L0 T).size = L0.size := by
  intro T
  unfold litL
  generalize T.map (·.i) = is
  induction is generalizing L0 with
  | nil => rfl
  | cons i is ih => rw [List.foldl_cons, ih]; simp
theorem litL_get (L0 : Array Bool) (T : List LE) (j : Nat) (hj : j < L0.size) : (litL L0 T)[j]? = if (∃ e ∈ T, e.i = j) then some true else L0[j]? := by
  have key : ∀ (is : List Nat) (L0 : Array Bool), j < L0.size → (is.foldl (fun L i => L.setIfInBounds i true) L0)[j]? = if j ∈ is then some true else L0[j]? := by
    intro is
    induction is with
    | nil => intro L0 _; simp
    | cons i is ih =>
      intro L0 hj
      rw [List.foldl_cons, ih _ (by simpa using hj), Array.getElem?_setIfInBounds]
      by_cases q : j ∈ is
      · simp [q]
      · by_cases q2 : i = j
        · subst q2; simp [hj]
        · simp [q, q2, Ne.symm q2]
  unfold litL
  rw [key _ _ hj]
  congr 1
  simp [List.mem_map]
theorem RD.lits {ty kt et : TypeId} {f1 f2 : Field} {b : Nat} (T : List LE) (L0 : Array Bool) (m0 : Nat) (hR : n.round = none) (hm : P.underlying ty = some (.map kt et)) (hp : PairT P kt f1 f2)
    (hl : ∀ e ∈ T, ∃ m x y t pos af, l[e.i]? = some ⟨none, .insert ty m x y, t, pos, af, none⟩ ∧ XL.ev F m = some (.map (some b)) ∧ XL.ev F x = some (pk e.a e.c) ∧ XL.ev F y = some e.v ∧ (af.all fun g => !Region.binds .any g || L0.getD g.on false) = true)
    (hk : (T.map fun e => (e.a, e.c)).Nodup) (hi : (T.map (·.i)).Nodup) (hblk : blkB l L0 (T.map (·.i)) = true) (hu2 : (T.all fun e => !(L0.getD e.i true)) = true) (hne : T ≠ []) (hb : HasP w b fun _ _ => none) (hB : B ≤ b)
    (h : ∀ w', HasP w' b (fun a c => (T.find? fun e => decide (e.a = a ∧ e.c = c)).map (·.v)) → Agr (· = b) w w' → RD P n l N Wr B (litL L0 T) m0 F w' p) : RD P n l N Wr B L0 (T.length + m0) F w p := by
  have hu2 : ∀ e ∈ T, L0.getD e.i true = false := fun e he => by have := List.all_eq_true.1 hu2 e he; simpa using this
  have key : ∀ (f : Nat) (L : Array Bool) (w' : World), L.size = L0.size → (∀ j, (∀ e ∈ T, e.i ≠ j) → L[j]? = L0[j]?) → (∀ i, L0.getD i false = true → L.getD i false = true) → (T.filter fun x => !L.getD x.i true).length = f → HasP w' b (litF T L) → Agr (· = b) w w' → RD P n l N Wr B L (f + m0) F w' p := by
    intro f
    induction f with
    | zero =>
      intro L w' h0 h1 h2 h3 h4 h5
      have hall : ∀ e ∈ T, L.getD e.i true = true := by
        intro e he
        have := List.length_eq_zero_iff.1 h3
        rw [List.filter_eq_nil_iff] at this
        simpa using this e he
      have e1 : litF T L = fun a c => (T.find? fun e => decide (e.a = a ∧ e.c = c)).map (·.v) := by
        funext a c
        unfold litF
        congr 1
        exact find_congr fun x hx => by rw [hall x hx, Bool.and_true]
      have e2 : L = litL L0 T := by
        refine Array.ext_getElem? (fun j => ?_)
        rcases Nat.lt_or_ge j L0.size with g | g
        · rw [litL_get L0 T j g]
          by_cases q : ∃ e ∈ T, e.i = j
          · rw [if_pos q]
            obtain ⟨e, he, rfl⟩ := q
            have := hall e he
            rw [Array.getD_eq_getD_getElem?, Array.getElem?_eq_getElem (by rw [h0]; exact g)] at this
            rw [Array.getElem?_eq_getElem (by rw [h0]; exact g)]
            exact congrArg some this
          · rw [if_neg q]; exact h1 j (fun e he e2 => q ⟨e, he, e2⟩)
        · rw [Array.getElem?_eq_none (by rw [h0]; exact g), Array.getElem?_eq_none (by rw [litL_size]; exact g)]
      rw [Nat.zero_add, e2]
      exact h w' (e1 ▸ h4) h5
    | succ f ih =>
      intro L w' h0 h1 h2 h3 h4 h5
      obtain ⟨e0, he0⟩ : ∃ e, e ∈ T.filter fun x => !L.getD x.i true := List.exists_mem_of_length_pos (by omega)
      have he1 := List.mem_filter.1 he0
      have hun0 : L.getD e0.i true = false := by simpa using he1.2
      have hrdy : e0.i ∈ Region.ready .any l.toArray L := by
        obtain ⟨m, x, y, t, pos, af, g1, _, _, _, g5⟩ := hl e0 he1.1
        refine mem_ready.2 ⟨hun0, _, by simpa using g1, fun g hg hbd => h2 _ ?_⟩
        have := Array.all_eq_true'.1 g5 g hg
        rw [hbd] at this; simpa using this
      rw [show f + 1 + m0 = (f + m0) + 1 by omega]
      intro a k
      refine ⟨fun e => absurd (e ▸ hrdy) (by simp), fun i hi2 => ?_⟩
      obtain ⟨e, he, rfl⟩ := blk_of hblk h0 h1 ⟨e0, he1.1, hun0⟩ hi2
      obtain ⟨hun, _⟩ := mem_ready.1 hi2
      obtain ⟨m, x, y, t, pos, af, g1, g2, g3, g4, g5⟩ := hl e he
      obtain ⟨n1, n2⟩ := litF_new hk hi he hun
      refine RDs.cons (is := []) g1 ?_ RDs.nil hR e.i (by simp) a k
      refine RL.insertP hm hp g2 g3 g4 h4 n1 rfl (fun w2 hs hb2 ha => RL.nil (fun a k => ⟨ha.mono fun k _ e => .inr (by rw [e]; exact hB), ih (L.setIfInBounds e.i true) w2 (by simpa using h0) ?_ (fun j hj => getD_truef (h2 j hj)) (by have := cnt_set hi he hun; omega) (by rw [n2]; exact hb2) (h5.trans ha) a k⟩))
      intro j hj
      rw [Array.getElem?_setIfInBounds, if_neg (hj e he)]
      exact h1 j hj
  refine key T.length L0 w rfl (fun _ _ => rfl) (fun _ h => h) ?_ ?_ (Agr.refl _ _)
  · rw [List.filter_eq_self.2 (fun x hx => by rw [hu2 x hx]; rfl)]
  · have : litF T L0 = fun _ _ => none := by
      funext a c
      unfold litF
      rw [List.find?_eq_none.2]
      · rfl
      intro x hx; rw [hu2 x hx]; simp
    rw [this]; exact hb
end
def I64 (r : Int) : Prop := -9223372036854775808 ≤ r ∧ r ≤ 9223372036854775807
def rightR (r : Int) : Bool := decide (r = 0 ∨ 1 ≤ r % 65536 ∧ r % 65536 ≤ 512 ∧ r / 65536 ≤ 1048576)
def nodeR (r : Int) : Prop := ¬ r = 0 ∧ rightR r = true
instance (r : Int) : Decidable (nodeR r) := inferInstanceAs (Decidable (_ ∧ _))
end Go.Proofs.Ytfkanamdlndkfaa
set_option linter.unusedVariables false
set_option linter.unusedSimpArgs false
set_option maxRecDepth 4000
namespace Go.Proofs.Ytfkanamdlndkfaa
open Go Go.XL
structure Node where
  kind : Int
  gen : Int
  n : Int
  v : Int
  s : Int
  k0 : Int
  k1 : Int
  k2 : Int
  k3 : Int
  k4 : Int
  k5 : Int
  k6 : Int
  k7 : Int
  k8 : Int
  pre : Int
  suf : Int
  deriving DecidableEq

def i6 (x : Int) : Value := .int .i64 x
def bareN (g : Int) : Node := ⟨0, g, 0, 0, 0, 0, 0, 0, 0, 0, 0, 0, 0, 0, 0, 0⟩
theorem getSome {α : Type} {l : List α} {i : Nat} (h : i < l.length) : ∃ x, l[i]? = some x := ⟨_, List.getElem?_eq_getElem h⟩
theorem lt_of_get {α : Type} {l : List α} {i : Nat} {x : α} (h : l[i]? = some x) : i < l.length := by
  rcases Nat.lt_or_ge i l.length with q | q
  · exact q
  · rw [List.getElem?_eq_none q] at h; cases h
theorem getElem_of {α : Type} {l : List α} {i : Nat} {x : α} (h : l[i]? = some x) (hi : i < l.length) : l[i] = x := by
  rw [List.getElem?_eq_getElem hi] at h; cases h; rfl

structure Ar where
  nodes : List Node
  free : List Int
def x0 (x : Node) : Node := { x with gen := 0 }
end Go.Proofs.Ytfkanamdlndkfaa
set_option linter.unusedVariables false
set_option linter.unusedSimpArgs false
namespace Go.XL
open Go
def fitR : Option IntKind → Value → Prop
  | some k, .int k' a => k' = k ∧ (Lit.int k a).wf = true
  | none, .bool _ => True
  | _, _ => False
def fitsR : List (Option IntKind) → List Value → Prop
  | [], [] => True
  | k :: ks, v :: vs => fitR k v ∧ fitsR ks vs
  | _, _ => False
theorem fitsR_app : ∀ {ks ks' : List (Option IntKind)} {xs ys : List Value}, fitsR ks xs → fitsR ks' ys → fitsR (ks ++ ks') (xs ++ ys)
  | [], _, [], _, _, h => h
  | _ :: _, _, _ :: _, _, h, h' => ⟨h.1, fitsR_app h.2 h'⟩
  | [], _, _ :: _, _, h, _ => h.elim
  | _ :: _, _, [], _, h, _ => h.elim
theorem fitR_int {k : IntKind} {v : Value} (h : fitR (some k) v) : ∃ a, v = .int k a ∧ (Lit.int k a).wf = true := by
  cases v <;> simp [fitR] at h
  obtain ⟨rfl, h⟩ := h
  exact ⟨_, rfl, h⟩
theorem fitsR_cons {k ks xs} (h : fitsR (k :: ks) xs) : ∃ v vs, xs = v :: vs ∧ fitR k v ∧ fitsR ks vs := by
  cases xs with
  | nil => exact h.elim
  | cons v vs => exact ⟨v, vs, rfl, h.1, h.2⟩
theorem fitsR_nil {xs} (h : fitsR [] xs) : xs = [] := by
  cases xs with
  | nil => rfl
  | cons v vs => exact h.elim

section
variable {H : Type} {enc : TypeId × Value → H} {P : Program} {w : World} {base : Nat} {spare : Nat → Bool} {held : Bool}
theorem cellsOf_shape {t b s} (h : shapeOf P t = some (b, s)) : P.cellsOf t = s := by
  obtain ⟨d, i, h1, h2, h3, h4⟩ := shapeOf_spec h
  simp [Program.cellsOf, h2, h4]

theorem fields_flat {k : Nat} (IH : ∀ {t ks n cs x}, flatK P k t = some ks → cs.length = ks.length → DataW.trod enc P w base spare held n t cs = some x → fitsR ks cs) :
    ∀ (fs : List Field) (o : Nat) (ks : List (Option IntKind)) (cs : List Value), fieldsK P (flatK P k) o fs = some ks → cs.length = o + ks.length →
      (∀ f ∈ fs, ∃ n x, DataW.trod enc P w base spare held n f.type ((cs.drop f.offset).take (P.cellsOf f.type)) = some x) → fitsR ks (cs.drop o)
  | [], o, ks, cs, h, hl, _ => by
    simp only [fieldsK, Option.some.injEq] at h
    subst h
    rw [List.drop_eq_nil_of_le (by simp at hl; omega)]
    trivial
  | f :: fs, o, ks, cs, h, hl, hf => by
    simp only [fieldsK] at h
    split at h
    · cases h
    rename_i hno
    split at h
    · cases h
    rename_i l hl1
    split at h
    · cases h
    rename_i b s hs
    split at h
    · cases h
    rename_i hsl
    have hsl' : s = l.length := Decidable.byContradiction hsl
    split at h
    · cases h
    rename_i r hr
    cases h
    have ho : f.offset = o := Decidable.byContradiction fun e => hno (.inr e)
    obtain ⟨n, x, hx⟩ := hf f (by simp)
    rw [ho, cellsOf_shape hs] at hx
    have h1 := IH hl1 (by rw [List.length_take, List.length_drop, hl, List.length_append]; omega) hx
    have h2 := fields_flat IH fs (o + s) r cs hr (by rw [hl, List.length_append]; omega) (fun g hg => hf g (by simp [hg]))
    have e : cs.drop o = (cs.drop o).take s ++ cs.drop (o + s) := by
      rw [← List.drop_drop, List.take_append_drop]
    rw [e]
    exact fitsR_app h1 h2

theorem elems_flat {l : List (Option IntKind)} {s : Nat} (hs : s = l.length) : ∀ (n : Nat) (cs : List Value), cs.length = n * s → (∀ i, i < n → fitsR l ((cs.drop (i * s)).take s)) → fitsR (List.replicate n l).flatten cs
  | 0, cs, hl, _ => by
    have : cs = [] := List.eq_nil_of_length_eq_zero (by simpa using hl)
    subst this
    trivial
  | n + 1, cs, hl, h => by
    rw [Nat.succ_mul] at hl
    rw [List.replicate_succ, List.flatten_cons, ← List.take_append_drop s cs]
    refine fitsR_app (by simpa using h 0 (by omega)) (elems_flat hs n (cs.drop s) (by rw [List.length_drop]; omega) fun i hi => ?_)
    have := h (i + 1) (by omega)
    rwa [Nat.succ_mul, Nat.add_comm, ← List.drop_drop] at this

theorem trod_flat : ∀ (k : Nat) {t ks n cs x}, flatK P k t = some ks → cs.length = ks.length → DataW.trod enc P w base spare held n t cs = some x → fitsR ks cs
  | 0, t, ks, n, cs, x, h, _, _ => by simp [flatK] at h
  | k + 1, t, ks, n, cs, x, h, hl, hx => by
    rw [flatK] at h
    split at h
    · rename_i kd hu
      cases h
      obtain ⟨a, rfl, _, hw⟩ := DataW.trod_int hu hx
      exact ⟨⟨rfl, hw⟩, trivial⟩
    · rename_i hu
      cases h
      obtain ⟨b, rfl, _⟩ := DataW.trod_bool hu hx
      exact ⟨trivial, trivial⟩
    · rename_i fs hu
      split at h
      · cases h
      obtain ⟨xs, m, rfl, rfl, hlen, hxl, hf⟩ := DataW.trod_struct hu hx
      have key : ∀ f ∈ fs.toList, ∃ n x, DataW.trod enc P w base spare held n f.type ((cs.drop f.offset).take (P.cellsOf f.type)) = some x := fun f hfm => by
        obtain ⟨i, hi, he⟩ := List.getElem_of_mem hfm
        have hi' : i < fs.size := by simpa using hi
        have := hf i f (by rw [Array.getElem?_eq_getElem hi']; simpa using he)
        rw [List.getElem?_eq_getElem (by omega)] at this
        exact ⟨m, _, this⟩
      have := fields_flat (fun h hl hx => trod_flat k h hl hx) fs.toList 0 ks cs h (by omega) key
      simpa using this
    · rename_i len e hu
      split at h
      · cases h
      rename_i l hl1
      split at h
      · cases h
      rename_i b s hs
      split at h
      · cases h
      rename_i hsl
      have hsl' : s = l.length := Decidable.byContradiction hsl
      cases h
      obtain ⟨xs, m, rfl, rfl, hlen, hxl, hf⟩ := DataW.trod_array hu hx
      rw [cellsOf_shape hs] at hf
      have hcl : cs.length = len * s := by rw [hl, List.length_flatten]; simp [hsl']
      refine elems_flat hsl' len cs hcl fun i hi => ?_
      have := hf i hi
      rw [List.getElem?_eq_getElem (by omega)] at this
      have hle : (i + 1) * s ≤ len * s := Nat.mul_le_mul_right _ hi
      rw [Nat.succ_mul] at hle
      exact trod_flat k hl1 (by rw [List.length_take, List.length_drop]; omega) this
    · cases h

theorem trod_sl {t e s by_ ks n cs x} (ht : sliceOf P t = some (e, s, by_)) (hk : flatK P 6 e = some ks) (hs : s = ks.length) (h : DataW.trod enc P w base spare held n t cs = some x) :
    ∃ (a : Option Addr) (rows : List (List Value)) (c : Nat), cs = [.slice a rows.length c] ∧ rows.length ≤ c ∧ c ≤ maxLen ∧ Sl w a s rows ∧ ∀ r ∈ rows, fitsR ks r := by
  obtain ⟨h1, i, h2, h3, h4⟩ := sliceOf_spec ht
  have hc : P.cellsOf e = s := by simp [Program.cellsOf, h2, h3]
  rcases Go.Deep.open_slice h1 h with ⟨rfl, rfl⟩ | ⟨a, len, cap, m, n', D, Pl, rfl, hb, hlc, hcm, hm, rfl, hel⟩
  · exact ⟨none, [], 0, rfl, Nat.le_refl _, Nat.zero_le _, Sl.nil _ _ _, by simp⟩
  · rw [hc] at hel
    have hlm : len ≤ m := by rw [hm]; split <;> omega
    let f : Nat → List Value := fun i => (w.cells? base (a.add (i * s)) s).getD []
    have hf : ∀ i, i < len → w.cells? base (a.add (i * s)) s = some (f i) ∧ fitsR ks (f i) := fun i hi => by
      obtain ⟨cs', g1, g2⟩ := hel i (by omega)
      have hl := (World.cells?_some g1).2.1
      have e : f i = cs' := by simp only [f, g1, Option.getD_some]
      rw [e]
      exact ⟨g1, trod_flat 6 hk (by omega) g2⟩
    have hlen : ((List.range len).map f).length = len := by simp
    refine ⟨some a, (List.range len).map f, cap, by rw [hlen], by omega, hcm, ⟨fun _ => rfl, fun i r hr => ?_⟩, fun r hr => ?_⟩
    · rw [List.getElem?_map] at hr
      by_cases hi : i < len
      · rw [List.getElem?_range hi] at hr
        cases hr
        obtain ⟨_, g2, g3⟩ := World.cells?_some (hf i hi).1
        intro j v hj
        have hjl : j < s := by
          rw [← g2]
          rcases Nat.lt_or_ge j (f i).length with q | q
          · exact q
          · rw [List.getElem?_eq_none q] at hj; cases hj
        simp only [Option.getD_some]
        rw [g3 j hjl, hj]
      · rw [List.getElem?_eq_none (by simpa using hi)] at hr; cases hr
    · obtain ⟨i, hi, rfl⟩ := List.mem_map.1 hr
      exact (hf i (List.mem_range.1 hi)).2
theorem rows_of {α : Type} {enc : α → List Value} {ok : α → Prop} : ∀ (rows : List (List Value)), (∀ r ∈ rows, ∃ x, r = enc x ∧ ok x) → ∃ l : List α, rows = l.map enc ∧ ∀ x ∈ l, ok x
  | [], _ => ⟨[], rfl, by simp⟩
  | r :: rows, h => by
    obtain ⟨x, rfl, hx⟩ := h r (by simp)
    obtain ⟨l, rfl, hl⟩ := rows_of rows (fun r hr => h r (by simp [hr]))
    exact ⟨x :: l, rfl, by intro y hy; rcases List.mem_cons.1 hy with rfl | hy; exact hx; exact hl y hy⟩
theorem open_flat {t ks s v d ps r b} (hsh : shapeOf P t = some (true, s)) (hk : flatK P 6 t = some ks) (hs : s = ks.length) (hok : Value.okWide P w r b t v) (h : DataW.Trod enc P w base spare held t v d ps) :
    ∃ cs : List Value, v = .agg cs.toArray ∧ fitsR ks cs := by
  obtain ⟨n, hn⟩ := h
  obtain ⟨de, i, h1, h2, h3, h4⟩ := shapeOf_spec hsh
  have key : ∀ cs : Array Value, v = .agg cs → cs.size = P.cellsOf t → ∃ cs : List Value, v = .agg cs.toArray ∧ fitsR ks cs := fun cs e hc => by
    subst e
    refine ⟨cs.toList, by simp, trod_flat 6 hk ?_ hn⟩
    show cs.toList.length = _
    rw [Array.length_toList, hc, cellsOf_shape hsh, hs]
  cases de <;> simp [isAggD] at h3
  all_goals
    simp only [Value.okWide, h1] at hok
    obtain ⟨cs, e, hc, _⟩ := hok
    exact key cs e hc
end
end Go.XL
set_option linter.unusedVariables false
set_option linter.unusedSimpArgs false
namespace Go.Proofs.Ytfkanamdlndkfaa
open Go Go.XL
theorem wfI {a : Int} (h : (Lit.int .i64 a).wf = true) : I64 a := by
  simp [Lit.wf, IntKind.min, IntKind.max, IntKind.signed, IntKind.bits] at h
  unfold I64
  omega
theorem fitI {v : Value} (h : fitR (some .i64) v) : ∃ a, v = .int .i64 a ∧ I64 a := by
  obtain ⟨a, h1, h2⟩ := fitR_int h
  exact ⟨a, h1, wfI h2⟩
theorem fit_int (r : List Value) (h : fitsR [some .i64] r) : ∃ x : Int, r = [i6 x] ∧ I64 x := by
  obtain ⟨_, _, rfl, h0, h⟩ := fitsR_cons h
  obtain rfl := fitsR_nil h
  obtain ⟨a, rfl, g⟩ := fitI h0
  exact ⟨a, rfl, g⟩
theorem few_len (k : Nat) {α : Type} (l : List α) : (if (k : Int) < (l.length : Int) then (k : Int) else l.length).toNat = (l.take k).length := by
  rw [List.length_take]; split <;> omega

structure Ft (M : Nat → Prop) (I : World → Prop) (w : World) : Prop where
  lt : ∀ k, M k → k < w.heap.size
  imm : ∀ w', Agr (fun k => ¬ M k) w w' → I w'
theorem Ft.now {M I w} (h : Ft M I w) : I w := h.imm w (Agr.refl _ _)
theorem Ft.step {M I w w'} {N : Nat → Prop} (h : Ft M I w) (a : Agr N w w') (hn : ∀ k, M k → ¬ N k) : Ft M I w' :=
  ⟨fun k hk => Nat.lt_of_lt_of_le (h.lt k hk) a.size, fun w'' a' => h.imm w'' ((a.mono fun k _ e hk => hn k hk e).trans a')⟩
theorem Ft.sub {M I w w'} (h : Ft M I w) (s : Sub w w') : Ft M I w' := h.step (N := fun _ => False) s.agr (fun _ _ e => e)
theorem Ft.updD {M I w w' b} (h : Ft M I w) (a : Agr (· = b) w w') (d : ∀ k, M k → k ≠ b) : Ft M I w' := h.step a d
theorem Ft.neNew {M I w b} (h : Ft M I w) (hb : b = w.heap.size) : ∀ k, M k → k ≠ b := fun k hk e => absurd (h.lt k hk) (by omega)
theorem Ft.ge {M I w} (h : Ft M I w) : ∀ k, M k → 0 ≤ k ∧ k < w.heap.size := fun k hk => ⟨Nat.zero_le _, h.lt k hk⟩
theorem Ft.imp {M} {I J : World → Prop} {w} (h : Ft M I w) (k : ∀ u, I u → J u) : Ft M J w := ⟨h.lt, fun w' a => k _ (h.imm w' a)⟩
theorem Ft.of_sub {I : World → Prop} {w} (h : ∀ u, Sub w u → I u) : Ft (· < w.heap.size) I w :=
  ⟨fun _ hk => hk, fun u a => h u ⟨a.os, a.tape, a.output, a.size, fun k hk => a.block k hk (fun hn => hn hk)⟩⟩
theorem obDF {w : World} {v v' : Value} {M : Nat → Prop} (h : ob v' = ob v ∨ ∃ c, ob v' = some c ∧ w.heap.size ≤ c) (d : ∀ k, ob v = some k → M k → False) (h2 : ∀ k, M k → k < w.heap.size) : ∀ k, ob v' = some k → M k → False := by
  intro k hk hk2
  rcases h with h | ⟨c, h1, h3⟩
  · exact d k (h ▸ hk) hk2
  · rw [h1] at hk; cases hk; have := h2 _ hk2; omega
theorem agLe {N : Nat → Prop} {w0 w : World} {b : Nat} (h : Agr N w0 w) (e : b = w.heap.size) : w0.heap.size ≤ b := by rw [e]; exact h.size
theorem agNew {N : Nat → Prop} {w0 w w' : World} {b : Nat} (h : Agr N w0 w) (a : Agr (· = b) w w') (g : w0.heap.size ≤ b) : Agr N w0 w' :=
  ⟨a.os.trans h.os, a.tape.trans h.tape, a.output.trans h.output, Nat.le_trans h.size a.size, fun k hk hn => (a.block k (Nat.lt_of_lt_of_le hk h.size) (fun (e : k = b) => absurd hk (by omega))).trans (h.block k hk hn)⟩
theorem Ft.and {M M' : Nat → Prop} {I J : World → Prop} {w : World} (h : Ft M I w) (k : Ft M' J w) : Ft (fun x => M x ∨ M' x) (fun u => I u ∧ J u) w :=
  ⟨fun x hx => hx.elim (h.lt x) (k.lt x), fun u a => ⟨h.imm u (a.mono fun x _ e hx => e (.inl hx)), k.imm u (a.mono fun x _ e hx => e (.inr hx))⟩⟩
theorem _root_.Go.XL.Ows.ft {base e sz v rows} {w : World} (h : Ows base w e sz v rows) : Ft (fun k => ob v = some k) (fun u => Ows base u e sz v rows) w :=
  ⟨fun k hk => (h.ge k hk).2, fun u a => h.step a (fun k hk hn => hn hk)⟩
theorem obNil {k : Nat} {p : Prop} (h : ob (.slice none 0 0) = some k) : p := by simp [ob, Value.ownBlock] at h
theorem add_add (a : Addr) (i j : Nat) : (a.add i).add j = a.add (i + j) := by
  unfold Addr.add
  by_cases hi : i = 0
  · subst hi; simp
  · by_cases hj : j = 0
    · subst hj; simp
    · rw [if_neg hj, if_neg hi, if_neg (by omega), Nat.add_assoc]
def u64 (x : BitVec 64) : Value := .int .u64 (x.toNat : Int)
theorem u64_shr (x : BitVec 64) (k : Nat) (hk : k ≤ 64) : Value.int .u64 ((x.toNat : Int).fdiv (2 ^ min ((k : Int).toNat) IntKind.u64.bits)) = u64 (x >>> k) := by
  unfold u64
  congr 1
  rw [show min ((k : Int).toNat) IntKind.u64.bits = k by simp [IntKind.bits]; omega]
  have h2 : ((2 : Int) ^ k) = ((2 ^ k : Nat) : Int) := by rw [Int.natCast_pow]; rfl
  rw [BitVec.toNat_ushiftRight, Nat.shiftRight_eq_div_pow, Int.natCast_ediv, h2, Int.fdiv_eq_ediv_of_nonneg _ (Int.natCast_nonneg _)]
theorem ofInt_toNat (z : BitVec 64) : BitVec.ofInt 64 (z.toNat : Int) = z := by rw [BitVec.ofInt_natCast]; simp
theorem toNat_lt (z : BitVec 64) : z.toNat < 18446744073709551616 := z.isLt
theorem u64_xor (x y : BitVec 64) : Value.int .u64 (IntKind.u64.wrap ((BitVec.ofInt 64 (x.toNat : Int) ^^^ BitVec.ofInt 64 (y.toNat : Int)).toNat : Int)) = u64 (x ^^^ y) := by
  unfold u64
  rw [ofInt_toNat x, ofInt_toNat y, wrap_u64 ⟨Int.natCast_nonneg _, by have := toNat_lt (x ^^^ y); omega⟩]
theorem u64_of (x : Int) : Value.int .u64 (IntKind.u64.wrap x) = u64 (BitVec.ofInt 64 x) := by
  unfold u64
  congr 1
  rw [IntKind.wrap_u64, BitVec.toNat_ofInt]
  omega
theorem u64_low20 (x : BitVec 64) : Value.int .u64 (IntKind.u64.wrap ((BitVec.ofInt 64 (x.toNat : Int) &&& BitVec.ofInt 64 1048575).toNat : Int)) = .int .u64 ((x.toNat % 1048576 : Nat) : Int) := by
  have h2 : (x &&& BitVec.ofInt 64 1048575).toNat = x.toNat % 1048576 := by
    show (x &&& 1048575#64).toNat = _
    rw [BitVec.toNat_and]
    exact Nat.and_two_pow_sub_one_eq_mod x.toNat 20
  have h3 : x.toNat % 1048576 < 1048576 := Nat.mod_lt _ (by decide)
  rw [ofInt_toNat x, h2, wrap_u64 ⟨Int.natCast_nonneg _, by omega⟩]
theorem u64_mul (x : BitVec 64) (c : Nat) : Value.int .u64 (IntKind.u64.wrap ((x.toNat : Int) * (c : Int))) = u64 (x * BitVec.ofNat 64 c) := by
  rw [u64_of]
  congr 1
  rw [← Int.natCast_mul, BitVec.ofInt_natCast]
  apply BitVec.eq_of_toNat_eq
  simp [BitVec.toNat_mul]
theorem u64_add (x : BitVec 64) (c : Nat) : Value.int .u64 (IntKind.u64.wrap ((x.toNat : Int) + (c : Int))) = u64 (x + BitVec.ofNat 64 c) := by
  rw [u64_of]
  congr 1
  rw [← Int.natCast_add, BitVec.ofInt_natCast]
  apply BitVec.eq_of_toNat_eq
  simp [BitVec.toNat_add]

def mixOf (x : BitVec 64) : BitVec 64 :=
  let a := (x ^^^ (x >>> 30)) * 13787848793156543929#64
  let b := (a ^^^ (a >>> 27)) * 10723151780598845931#64
  (b ^^^ (b >>> 31)) * 1#64

set_option maxRecDepth 4000 in
theorem c_mixOf (x : BitVec 64) (w : World) : FC Try.prog 53 [u64 x] w (Val (u64 (mixOf x)) w) := by
 refine FC.intro Try.func53 rfl Try.ntmps53 rfl ?_
 have S := Sub.refl w
 refine RC.seq (RC.region rfl ?_);refine RL.asS rfl ?_;refine RL.nil (RC.back (RC.seq (RC.seq (RC.region rfl ?_))));refine RL.eS (.as (v' := .agg #[.int .i64 30, .int .u64 13787848793156543929]) (.buildS ze91 pl91 rfl rfl) (by rfl)) ?_;refine RL.eS (.as (v' := .agg #[.int .i64 27, .int .u64 10723151780598845931]) (.buildS ze91 pl91 rfl rfl) (by rfl)) ?_;refine RL.eS (.as (v' := .agg #[.int .i64 31, .int .u64 1]) (.buildS ze91 pl91 rfl rfl) (by rfl)) ?_;refine RL.eS (.as (v' := .agg #[.int .i64 30, .int .u64 13787848793156543929, .int .i64 27, .int .u64 10723151780598845931, .int .i64 31, .int .u64 1]) (.buildA ze92 ar92 rfl rfl) (by rfl)) ?_;refine RL.mvS rfl ?_;refine RL.nil (RC.back (RC.block ?_));refine RC.unroll 5 ?_;refine RC.seq (RC.region rfl ?_);refine RL.eS (.bin rfl rfl rfl) ?_;refine RL.nil (RC.back (RC.seq ?_));refine RC.cond_t rfl ?_;refine RC.skip (RC.back (RC.seq (RC.block (RC.seq (RC.region rfl ?_)))));refine RL.eS (.as (v' := .agg #[.int .i64 30, .int .u64 13787848793156543929]) (.indexN ar92 sh91 rfl rfl (by decide)) (by rfl)) ?_;refine RL.alloc ze91 rfl rfl (fun b_4 w_4 e_4 z_4 hb_4 s_4 => ?_);have ge_4 := S.le e_4;have S := S.trans s_4;refine RL.stS sh91 rfl rfl rfl hb_4 (fun w1 z1 hb_4 a1 => ?_);have S := S.upd a1 ge_4;refine RL.nil (RC.back ?_);refine RC.draw rfl mxo (by kernel_rfl) ?_;refine RQ.ev (.move rfl) rfl rfl ?_;refine RQ.ev (.move rfl) rfl rfl ?_;refine RQ.ev (.field0 fo91_0 rfl) rfl rfl ?_;refine RQ.ev (.load1 sh3 rfl (hb_4.cell rfl)) rfl rfl ?_;refine RQ.ev (.as (v' := _) (.shr rfl rfl (by decide)) (by exact u64_shr _ 30 (by decide))) rfl rfl ?_;refine RQ.ev (.as (v' := _) (.bin rfl rfl rfl) (by exact u64_xor _ _)) rfl rfl ?_;refine RQ.ev (.field0 fo91_1 rfl) rfl rfl ?_;refine RQ.ev (.load1 sh76 rfl (hb_4.cell rfl)) rfl rfl ?_;refine RQ.ev (.as (v' := _) (.bin rfl rfl rfl) (by exact u64_mul _ 13787848793156543929)) rfl rfl ?_;refine RQ.ev (.assign rfl) rfl rfl ?_;refine RQ.nil (fun w2 s3 => RC.back ?_);have S := S.trans s3;refine RC.region rfl ?_;refine RL.eS (.bin rfl rfl rfl) ?_;refine RL.mvS rfl ?_;refine RL.nil (RC.again (RC.seq (RC.region rfl ?_)));refine RL.eS (.bin rfl rfl rfl) ?_;refine RL.nil (RC.back (RC.seq ?_));refine RC.cond_t rfl ?_;refine RC.skip (RC.back (RC.seq (RC.block (RC.seq (RC.region rfl ?_)))));refine RL.eS (.as (v' := .agg #[.int .i64 27, .int .u64 10723151780598845931]) (.indexN ar92 sh91 rfl rfl (by decide)) (by rfl)) ?_;refine RL.alloc ze91 rfl rfl (fun b_4_2 w_4_2 e_4_2 z_4_2 hb_4_2 s_4_2 => ?_);have ge_4_2 := S.le e_4_2;have S := S.trans s_4_2;refine RL.stS sh91 rfl rfl rfl hb_4_2 (fun w4 z4 hb_4_2 a4 => ?_);have S := S.upd a4 ge_4_2;refine RL.nil (RC.back ?_);refine RC.draw rfl mxo (by kernel_rfl) ?_;refine RQ.ev (.move rfl) rfl rfl ?_;refine RQ.ev (.move rfl) rfl rfl ?_;refine RQ.ev (.field0 fo91_0 rfl) rfl rfl ?_;refine RQ.ev (.load1 sh3 rfl (hb_4_2.cell rfl)) rfl rfl ?_;refine RQ.ev (.as (v' := _) (.shr rfl rfl (by decide)) (by exact u64_shr _ 27 (by decide))) rfl rfl ?_;refine RQ.ev (.as (v' := _) (.bin rfl rfl rfl) (by exact u64_xor _ _)) rfl rfl ?_;refine RQ.ev (.field0 fo91_1 rfl) rfl rfl ?_;refine RQ.ev (.load1 sh76 rfl (hb_4_2.cell rfl)) rfl rfl ?_;refine RQ.ev (.as (v' := _) (.bin rfl rfl rfl) (by exact u64_mul _ 10723151780598845931)) rfl rfl ?_;refine RQ.ev (.assign rfl) rfl rfl ?_;refine RQ.nil (fun w5 s6 => RC.back ?_);have S := S.trans s6;refine RC.region rfl ?_;refine RL.eS (.bin rfl rfl rfl) ?_;refine RL.mvS rfl ?_;refine RL.nil (RC.again (RC.seq (RC.region rfl ?_)));refine RL.eS (.bin rfl rfl rfl) ?_;refine RL.nil (RC.back (RC.seq ?_));refine RC.cond_t rfl ?_;refine RC.skip (RC.back (RC.seq (RC.block (RC.seq (RC.region rfl ?_)))));refine RL.eS (.as (v' := .agg #[.int .i64 31, .int .u64 1]) (.indexN ar92 sh91 rfl rfl (by decide)) (by rfl)) ?_;refine RL.alloc ze91 rfl rfl (fun b_4_3 w_4_3 e_4_3 z_4_3 hb_4_3 s_4_3 => ?_);have ge_4_3 := S.le e_4_3;have S := S.trans s_4_3;refine RL.stS sh91 rfl rfl rfl hb_4_3 (fun w7 z7 hb_4_3 a7 => ?_);have S := S.upd a7 ge_4_3
 refine RL.nil (RC.back ?_);refine RC.draw rfl mxo (by kernel_rfl) ?_;refine RQ.ev (.move rfl) rfl rfl ?_;refine RQ.ev (.move rfl) rfl rfl ?_;refine RQ.ev (.field0 fo91_0 rfl) rfl rfl ?_;refine RQ.ev (.load1 sh3 rfl (hb_4_3.cell rfl)) rfl rfl ?_;refine RQ.ev (.as (v' := _) (.shr rfl rfl (by decide)) (by exact u64_shr _ 31 (by decide))) rfl rfl ?_;refine RQ.ev (.as (v' := _) (.bin rfl rfl rfl) (by exact u64_xor _ _)) rfl rfl ?_;refine RQ.ev (.field0 fo91_1 rfl) rfl rfl ?_;refine RQ.ev (.load1 sh76 rfl (hb_4_3.cell rfl)) rfl rfl ?_;refine RQ.ev (.as (v' := _) (.bin rfl rfl rfl) (by exact u64_mul _ 1)) rfl rfl ?_;refine RQ.ev (.assign rfl) rfl rfl ?_;refine RQ.nil (fun w8 s9 => RC.back ?_);have S := S.trans s9;refine RC.region rfl ?_;refine RL.eS (.bin rfl rfl rfl) ?_;refine RL.mvS rfl ?_;refine RL.nil (RC.again (RC.seq (RC.region rfl ?_)));refine RL.eS (.bin rfl rfl rfl) ?_;refine RL.nil (RC.back (RC.seq ?_));refine RC.cond_f rfl ?_;refine RC.exit rfl (RC.back (RC.seq (RC.region rfl ?_)));refine RL.mvS rfl ?_;refine RL.asS rfl ?_;refine RL.nil (RC.back ?_);refine RC.d1 2 rfl rfl rfl ?_
 exact ⟨rfl, S⟩

def rankOf (k : Int) : BitVec 64 := mixOf (BitVec.ofInt 64 k + 7#64)
def hashOf (k : Int) : Nat := (rankOf k).toNat % 1048576
theorem hashOf_lt (k : Int) : hashOf k < 1048576 := Nat.mod_lt _ (by decide)
def beforeK (a b : Int) : Bool := decide ((rankOf a).toNat < (rankOf b).toNat ∨ (rankOf a).toNat = (rankOf b).toNat ∧ a < b)

theorem c_rank (k : Int) (w : World) : FC Try.prog 42 [.int .i64 k] w (Val (u64 (rankOf k)) w) := by
 refine FC.intro Try.func42 rfl Try.ntmps42 rfl ?_
 have S := Sub.refl w
 refine RC.seq (RC.region rfl ?_);refine RL.asS rfl ?_;refine RL.nil (RC.back (RC.seq (RC.region rfl ?_)));refine RL.mvS rfl ?_;refine RL.eS (.as (v' := _) (.conv i2 i76 rfl) (by exact u64_of _)) ?_;refine RL.eS (.as (v' := _) (.bin rfl rfl rfl) (by exact u64_add _ 7)) ?_;refine RL.call rfl ok53 (c_mixOf _ w) rfl rfl ?_;rintro _ w1 ⟨rfl, s2⟩;have S := S.trans s2;refine RL.asS rfl ?_;refine RL.nil (RC.back ?_);refine RC.d1 2 rfl rfl rfl ?_
 exact ⟨rfl, S⟩
theorem c_hash (k : Int) (w : World) : FC Try.prog 30 [.int .i64 k] w (Val (.int .i64 (hashOf k)) w) := by
 refine FC.intro Try.func30 rfl Try.ntmps30 rfl ?_
 have S := Sub.refl w
 have hlt := hashOf_lt k
 refine RC.seq (RC.region rfl ?_);refine RL.asS rfl ?_;refine RL.nil (RC.back (RC.seq (RC.region rfl ?_)));refine RL.mvS rfl ?_;refine RL.call rfl ok42 (c_rank _ w) rfl rfl ?_;rintro _ w1 ⟨rfl, s2⟩;have S := S.trans s2;refine RL.eS (.as (v' := .int .u64 (hashOf k : Int)) (.bin rfl rfl rfl) (by exact u64_low20 _)) ?_;refine RL.eS (.as (.conv i76 i3 rfl) (wi64 (y := (hashOf k : Int)) (by rfl) (by omega))) ?_;refine RL.asS rfl ?_;refine RL.nil (RC.back ?_);refine RC.d1 2 rfl rfl rfl ?_
 exact ⟨rfl, S⟩
structure It where
  k : Int
  v : Int
  deriving DecidableEq
def It.cells (x : It) : List Value := [.int .i64 x.k, .int .i64 x.v]
def It.val (x : It) : Value := .agg x.cells.toArray
def It.ok (x : It) : Prop := I64 x.k ∧ I64 x.v
def it0 : It := ⟨0, 0⟩
def Srt (l : List It) : Prop := l.Pairwise (fun x y => x.k < y.k)
theorem Srt.split {L R : List It} {it : It} (h : Srt (L ++ it :: R)) : Srt L ∧ Srt R ∧ (∀ y ∈ L, y.k < it.k) ∧ (∀ y ∈ R, it.k < y.k) := by
  unfold Srt at *
  rw [List.pairwise_append, List.pairwise_cons] at h
  exact ⟨h.1, h.2.1.2, fun y hy => h.2.2 y hy it (by simp), h.2.1.1⟩
theorem Srt.join {L R : List It} {it : It} (h1 : Srt L) (h2 : Srt R) (h3 : ∀ y ∈ L, y.k < it.k) (h4 : ∀ y ∈ R, it.k < y.k) : Srt (L ++ it :: R) := by
  unfold Srt at *
  rw [List.pairwise_append, List.pairwise_cons]
  refine ⟨h1, ⟨h4, h2⟩, fun x hx y hy => ?_⟩
  rcases List.mem_cons.1 hy with e | hy
  · rw [e]; exact h3 x hx
  · have := h3 x hx; have := h4 y hy; omega

def kAt (l : List It) (i : Nat) : Int := (l.getD i it0).k
def topAt (l : List It) : Nat → Int
  | 0 => -1
  | i + 1 => if topAt l i < 0 ∨ beforeK (kAt l i) (kAt l (topAt l i).toNat) = true then i else topAt l i
def topL (l : List It) : Int := topAt l l.length
theorem kAt_get {l : List It} {i : Nat} {x : It} (h : l[i]? = some x) : kAt l i = x.k := by rw [kAt, List.getD_eq_getElem?_getD, h]; rfl
def tNode (g k v s a b : Int) : Node := ⟨1, g, k, v, s, a, b, 0, 0, 0, 0, 0, 0, 0, 0, 0⟩
structure Bnd where
  low : Int
  high : Int
  hasLow : Bool
  hasHigh : Bool
  above : Int
  hasAbove : Bool
def Bnd.bad (b : Bnd) (n : Int) : Prop := b.hasLow = true ∧ n ≤ b.low ∨ b.hasHigh = true ∧ b.high ≤ n ∨ b.hasAbove = true ∧ beforeK b.above n = false
instance (b : Bnd) (n : Int) : Decidable (b.bad n) := inferInstanceAs (Decidable (_ ∨ _))
def freeB (size i : Nat) : List Int := (List.range i).map fun (j : Nat) => (size : Int) - 1 - j
theorem row_set0 {w : World} {b : Nat} {e : TypeId} {sz : Nat} {rows : List (List Value)} {r : List Value} {i : Nat} (h : Has w b (splice rows.flatten (i * sz) r) e) (hl : ∀ r ∈ rows, r.length = sz) (hi : i < rows.length) (hr : r.length = sz) : Has w b (rows.set i r).flatten e := by
  have := Has.row_set (extra := []) (rows := rows) (i := i) (sz := sz) (r := r) (by rw [List.append_nil]; exact h) hl hi hr
  rw [List.append_nil] at this
  exact this
theorem slDrop {w : World} {a : Option Addr} {sz : Nat} {rows : List (List Value)} (h : Sl w a sz rows) (k : Nat) {c : Nat} (hc : rows.length ≤ c) : Sl w (if c = k then a else a.map (·.add (k * sz))) sz (rows.drop k) := by
  by_cases e : c = k
  · rw [if_pos e, List.drop_eq_nil_of_le (by omega)]; exact Sl.nil _ _ _
  · rw [if_neg e]
    refine ⟨fun hne => ?_, fun i r hr => ?_⟩
    · have := h.some (by intro e2; rw [e2] at hne; simp at hne)
      cases a with
      | none => simp at this
      | some x => rfl
    · rw [List.getElem?_drop] at hr
      have h1 := h.row (k + i) r hr
      have := h.some (by intro e2; rw [e2] at hr; simp at hr)
      cases a with
      | none => simp at this
      | some x =>
        simp only [Option.map_some, Option.getD_some] at h1 ⊢
        rw [add_add, ← Nat.add_mul]
        exact h1
theorem slTakeM {α : Type} {w : World} {a : Option Addr} {sz : Nat} {f : α → List Value} {l : List α} (h : Sl w a sz (l.map f)) (k : Nat) : Sl w a sz ((l.take k).map f) := by rw [List.map_take]; exact h.take k
theorem slDropM {α : Type} {w : World} {a : Option Addr} {sz : Nat} {f : α → List Value} {l : List α} (h : Sl w a sz (l.map f)) (k : Nat) {c : Nat} (hc : l.length ≤ c) : Sl w (if c = k then a else a.map (·.add (k * sz))) sz ((l.drop k).map f) := by rw [List.map_drop]; exact slDrop h k (by rw [List.length_map]; exact hc)
theorem srt_iff {l : List It} : Srt l ↔ ∀ i, i + 1 < l.length → kAt l i < kAt l (i + 1) := by
  have kk : ∀ i (h : i < l.length), kAt l i = l[i].k := fun i h => kAt_get (List.getElem?_eq_getElem h)
  constructor
  · intro h i hi
    rw [kk i (by omega), kk (i + 1) hi]
    exact List.pairwise_iff_getElem.1 h i (i + 1) (by omega) hi (by omega)
  · intro h
    refine List.pairwise_iff_getElem.2 fun i j hi hj hij => ?_
    have key : ∀ d, i + 1 + d < l.length → kAt l i < kAt l (i + 1 + d) := by
      intro d
      induction d with
      | zero => intro hd; exact h i hd
      | succ d ih => intro hd; have h1 := ih (by omega); have h2 := h (i + 1 + d) hd; rw [show i + 1 + d + 1 = i + 1 + (d + 1) by omega] at h2; omega
    have := key (j - i - 1) (by omega)
    rw [show i + 1 + (j - i - 1) = j by omega, kk i hi, kk j hj] at this
    exact this
theorem it_rows {l : List It} : ∀ r ∈ l.map It.cells, r.length = 2 := fun r hr => by obtain ⟨x, _, rfl⟩ := List.mem_map.1 hr; rfl
theorem filter_take {p : It → Bool} {l : List It} {i : Nat} {x : It} (h : l[i]? = some x) : (l.take (i + 1)).filter p = (l.take i).filter p ++ (if p x then [x] else []) := by
  rw [List.take_add_one, h]
  simp only [Option.toList, List.filter_append, List.filter_cons, List.filter_nil]
end Go.Proofs.Ytfkanamdlndkfaa
