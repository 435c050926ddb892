/-
  A range over a function, in my logic: a call of yield, a round, the statement, a function that holds one.
-/
import Derived.Test.YtjafbffehmombaaFt
set_option linter.unusedVariables false
set_option linter.unusedSimpArgs false
namespace Go.Proofs.Ytjafbffehmombaa
open Go Go.XL

/-- a loop's record lies in the heap -/
def Lp (l : Nat) (r : Loop) (w : World) : Prop := w.heap[l]? = some (.loop r)
theorem Lp.lt {l r w} (h : Lp l r w) : l < w.heap.size := by
  unfold Lp at h
  rcases Nat.lt_or_ge l w.heap.size with q | q
  · exact q
  · rw [Array.getElem?_eq_none q] at h; cases h
theorem Lp.step {N : Nat → Prop} {l r w w'} (h : Lp l r w) (k : Agr N w w') (hn : ¬ N l) : Lp l r w' := (k.block l h.lt hn).trans h
theorem Lp.sub {l r w w'} (h : Lp l r w) (s : Sub w w') : Lp l r w' := (s.block l h.lt).trans h
theorem Lp.upd {l r w w' b} (h : Lp l r w) (a : Agr (· = b) w w') (hn : l ≠ b) : Lp l r w' := h.step a hn
theorem Lp.ne {l r w b} (h : Lp l r w) (hb : b = w.heap.size) : l ≠ b := fun e => by have := h.lt; omega
theorem Lp.put {l r r' w} (h : Lp l r w) : Lp l r' (w.putObj l (.loop r')) := World.putObj_heap_same h.lt
theorem agr_put {l : Nat} {o : Obj} {w : World} : Agr (· = l) w (w.putObj l o) := ⟨rfl, rfl, rfl, by simp, fun k _ hn => World.putObj_heap_other hn⟩

section
variable {P : Program} {n : Cx} {F : (List (Nat × Value))} {w : World} {p : Post} {ops : Array Oper} {rest : List Oper} {d : Option Tmp} {t : TypeId} {pos : String} {af : Array Edge} {g : Option (Nat × Bool)}

/-- what a call of yield comes to -/
def FY (P : Program) (l : Nat) (args : List Value) (w : World) (R : Value → World → Prop) : Prop :=
  ∃ r : Loop, Lp l r w ∧ args.length = r.params.size ∧ RoundIn Fence.wide 0 P l r.fn ((r.params.zip args.toArray).foldl (fun tmps (t, a) => tmps.setIfInBounds t a) r.tmps) r.assign r.body w (fun e w' => ∃ v, e = .returned v ∧ R v w')
theorem FY.mono {l : Nat} {args : List Value} {R R' : Value → World → Prop} (h : FY P l args w R) (hr : ∀ v w', R v w' → R' v w') : FY P l args w R' := by
  obtain ⟨r, h1, h2, h3⟩ := h
  exact ⟨r, h1, h2, h3.mono fun e w' ⟨v, e1, e2⟩ => ⟨v, e1, hr v w' e2⟩⟩
theorem RL.yield {l : Nat} {y : Operand} {xs : List Operand} {vs : List Value} {ts : Array TypeId} (hy : XL.ev F y = some (.func (.yield l) #[] #[])) (hx : evs F xs = some vs) {R : Value → World → Prop} (hc : FY P l vs w R) (hg : gsat ops F g = some true) (hd : inB d n = true)
    (h : ∀ v w', R v w' → RL P n ops rest (upd F d v) w' p) (hq : n.round = some none := by rfl) : RL P n ops (⟨d, .call ⟨.value y, xs.toArray, ts⟩, t, pos, af, g⟩ :: rest) F w p := by
  intro a k
  obtain ⟨r, h1, h2, h3⟩ := hc
  have he : (execOp a.eval ⟨d, .call ⟨.value y, xs.toArray, ts⟩, t, pos, af, g⟩).run P w = .ok (.round l r.fn ((r.params.zip vs.toArray).foldl (fun tmps (t, a) => tmps.setIfInBounds t a) r.tmps) r.assign r.body) w := by
    have hρ := k.agrees
    simp only [execOp, resolve, hρ y _ hy, Deferred.ofValue, evs_arr hρ hx, bind, Sem.bind, pure, invoke, Array.append_empty, Array.empty_append]
    exact run_yield h1 (by simpa using h2)
  rw [lwp_some hq]
  simp only [wpListIn]
  rw [wanted_of k hg, if_pos rfl]
  refine ⟨fun _ _ => trivial, ?_⟩
  rw [Oper.semAt_eq _ _ _ (not_defer he (fun _ e => by cases e)), he]
  refine ⟨fun e => (by cases e), ?_⟩
  refine RoundIn.mono h3 ?_
  rintro e w' ⟨v, rfl, hR⟩
  have := h v w' hR _ (k.upd d v hd)
  rwa [lwp_some hq] at this

/-- a function whose body holds ranges, or calls yield -/
theorem FC.introY {f : FuncId} {fn : Func} {c : Code} {args : List Value} {R : Value → World → Prop} {m : Nat} (hf : P.funcs[f]? = some fn) (hb : fn.body = some c) (hn : fn.ntmps = m) (ha : Nat.ble args.length m = true)
    (h : RC P ⟨m, some none, []⟩ c (env0 0 args) w (Post.fn P fn R)) : FC P f args w R := by
  have ha' : args.length ≤ m := by simpa using ha
  have key := h { tmps := args.toArray ++ Array.replicate (fn.ntmps - args.toArray.size) undef, defers := [] } ⟨by simp [hn]; omega, rfl, ?_⟩
  · rw [cwp_some rfl] at key
    refine callsIn_wide.1 (callsIn_of_wp (F := Fence.wide) (n := 0) hf hb trivial (wpIn_mono key ?_))
    intro e a w' hq
    cases e <;> simp only [Post.q, Post.fn, lookX] at hq <;> first | exact hq.elim | skip
    · obtain ⟨h1, v, h2, h3⟩ := hq; exact ⟨h1, v, h2, v, rfl, h3⟩
    · obtain ⟨h1, v, h2, h3⟩ := hq; exact ⟨h1, v, h2, v, rfl, h3⟩
  · intro t v ht
    obtain ⟨_, h2⟩ := look_env0 args 0 t v ht
    simp only [Nat.sub_zero] at h2
    have hlt : t < args.length := by
      rcases Nat.lt_or_ge t args.length with g | g
      · exact g
      · rw [List.getElem?_eq_none g] at h2; cases h2
    simp only []
    rw [Array.getElem?_append_left (by simpa using hlt)]
    simpa using h2
/-- the mark of a range's block -/
def markD (D : Nat) : Deferred := { target := .collected D, args := #[] }
/-- behind a range: the block is shut, and that turns it -/
def Post.fnM (P : Program) (fn : Func) (R : Value → World → Prop) : Post :=
  let r : Act → World → Prop := fun a w => (a.defers = [] ∨ ∃ D, a.defers = [markD D] ∧ w.heap[D]? = some (.deferred (some []))) ∧ ∀ w', (w' = w ∧ a.defers = [] ∨ ∃ D, a.defers = [markD D] ∧ w' = w.putObj D (.deferred none)) → ∃ v, (results fn a.tmps).run P w' = .ok v w' ∧ R v w'
  ⟨r, [], r⟩
theorem FC.introM {f : FuncId} {fn : Func} {c : Code} {args : List Value} {R : Value → World → Prop} {m : Nat} (hf : P.funcs[f]? = some fn) (hb : fn.body = some c) (hn : fn.ntmps = m) (ha : Nat.ble args.length m = true)
    (h : RC P ⟨m, some none, []⟩ c (env0 0 args) w (Post.fnM P fn R)) : FC P f args w R := by
  have ha' : args.length ≤ m := by simpa using ha
  have key := h { tmps := args.toArray ++ Array.replicate (fn.ntmps - args.toArray.size) undef, defers := [] } ⟨by simp [hn]; omega, rfl, ?_⟩
  · rw [cwp_some rfl] at key
    refine callsIn_wide.1 (callsIn_of_wp_marks (F := Fence.wide) (n := 0) hf hb trivial (wpIn_mono key ?_))
    have leave : ∀ (a : Act) (w' : World), (Post.fnM P fn R).ret a w' → LeavesInM Fence.wide 0 P fn a.tmps (fun e w' => ∃ v, e = .returned v ∧ R v w') a.defers .returning w' := by
      rintro a w' ⟨h1, h2⟩
      rcases h1 with h1 | ⟨D, h1, hD⟩
      · obtain ⟨v, h3, h4⟩ := h2 w' (.inl ⟨rfl, h1⟩)
        rw [h1]
        exact ⟨v, h3, v, rfl, h4⟩
      · obtain ⟨v, h3, h4⟩ := h2 _ (.inr ⟨D, h1, rfl⟩)
        rw [h1]
        exact ⟨fun e => (by cases e), .inl ⟨D, _, rfl, run_takeDeferred hD, v, h3, v, rfl, h4⟩⟩
    intro e a w' hq
    cases e <;> simp only [Post.q, Post.fnM, lookX] at hq <;> first | exact hq.elim | skip
    · exact leave a w' hq
    · exact leave a w' hq
  · intro t v ht
    obtain ⟨_, h2⟩ := look_env0 args 0 t v ht
    simp only [Nat.sub_zero] at h2
    have hlt : t < args.length := by
      rcases Nat.lt_or_ge t args.length with g | g
      · exact g
      · rw [List.getElem?_eq_none g] at h2; cases h2
    simp only []
    rw [Array.getElem?_append_left (by simpa using hlt)]
    simpa using h2

/-! ### a round -/
def endR (l : Nat) (j : Option Code) (R : Value → World → Prop) (a : Act) (w : World) : Prop := ∃ r, Lp l r w ∧ R (.bool j.isNone) (w.putObj l (.loop { r with state := if j.isNone then .ready else .done, pending := j }))
def roundP (l : Nat) (R : Value → World → Prop) (ids : List Nat) : Post := ⟨endR l none R, ids.map fun id => (id, endR l (some (.exit id)) R), endR l (some .ret) R⟩
def assignP (P : Program) (l : Nat) (r : Loop) (R : Value → World → Prop) (m : Nat) (ids : List Nat) : Post :=
  ⟨fun a1 w1 => Lp l r w1 ∧ ∀ w2, Agr (· = l) w1 w2 → w2.heap.size = w1.heap.size → Lp l { r with state := .busy } w2 → cwp ⟨m, some (some l), []⟩ P r.body (roundP l R ids).q a1 w2, [], fun _ _ => False⟩
theorem lookX_ids {l : Nat} {R : Value → World → Prop} {i : Nat} {K : Act → World → Prop} : ∀ {ids : List Nat}, lookX (ids.map fun id => (id, endR l (some (.exit id)) R)) i = some K → K = endR l (some (.exit i)) R
  | [], h => by cases h
  | j :: ids, h => by
    simp only [List.map_cons, lookX_cons] at h
    split at h
    · rename_i e; subst e; exact (Option.some.inj h).symm
    · exact lookX_ids h
theorem FY.intro {l m : Nat} {r : Loop} {args : List Value} {R : Value → World → Prop} {F : List (Nat × Value)} (ids : List Nat) (hl : Lp l r w) (hs : r.state = .ready) (hz : args.length = r.params.size)
    (hk : Knows ⟨m, some (some l), []⟩ F { tmps := (r.params.zip args.toArray).foldl (fun tmps (t, a) => tmps.setIfInBounds t a) r.tmps, defers := [] })
    (h : RC P ⟨m, some (some l), []⟩ r.assign F w (assignP P l r R m ids)) : FY P l args w R := by
  refine ⟨r, hl, hz, roundIn_of_wpIn trivial ?_⟩
  have key := h _ hk
  rw [cwp_some rfl] at key
  refine wpIn_mono key fun e a1 w1 hq => ?_
  cases e with
  | normal =>
    obtain ⟨h1, h2⟩ := hq
    refine ⟨_, run_beginRound h1 hs, ?_⟩
    have h3 := h2 _ agr_put (by simp) h1.put
    rw [cwp_some rfl] at h3
    refine wpIn_mono h3 fun e a w hq => ?_
    cases e with
    | normal =>
      obtain ⟨r', h4, h5⟩ := hq
      exact ⟨_, _, run_endRound none h4, _, rfl, h5⟩
    | ret =>
      obtain ⟨r', h4, h5⟩ := hq
      exact ⟨_, _, run_endRound (some .ret) h4, _, rfl, h5⟩
    | exit i =>
      simp only [Post.q] at hq
      split at hq
      · rename_i K hK
        rw [lookX_ids hK] at hq
        obtain ⟨r', h4, h5⟩ := hq
        exact ⟨_, _, run_endRound (some (.exit i)) h4, _, rfl, h5⟩
      · exact hq.elim
    | goto _ => exact hq.elim
    | panic _ => exact hq.elim
    | outgrown => exact hq.elim
  | exit i =>
    simp only [Post.q, assignP, lookX] at hq
  | ret => exact hq.elim
  | goto _ => exact hq.elim
  | panic _ => exact hq.elim
  | outgrown => exact hq.elim
/-- the assignment is done, the round begins -/
theorem RC.begin {l m : Nat} {r : Loop} {R : Value → World → Prop} {ids : List Nat} {F : List (Nat × Value)} (hl : Lp l r w) (h : ∀ w2, Agr (· = l) w w2 → w2.heap.size = w.heap.size → Lp l { r with state := .busy } w2 → RC P ⟨m, some (some l), []⟩ r.body F w2 (roundP l R ids)) :
    ∀ a, Knows ⟨m, some (some l), []⟩ F a → (assignP P l r R m ids).nrm a w := fun a ka => ⟨hl, fun w2 h1 h2 h3 => h w2 h1 h2 h3 a ka⟩
/-- the round ends -/
theorem RC.endr {n : Cx} {l : Nat} {r : Loop} {R : Value → World → Prop} {j : Option Code} {F : List (Nat × Value)} (hl : Lp l r w) (h : ∀ w', Agr (· = l) w w' → w'.heap.size = w.heap.size → Lp l { r with state := if j.isNone then .ready else .done, pending := j } w' → R (.bool j.isNone) w') :
    ∀ a, Knows n F a → endR l j R a w := fun a ka => ⟨r, hl, h _ agr_put (by simp) hl.put⟩

attribute [irreducible] endR
/-! ### the statement -/
def Df (D : Nat) (w : World) : Prop := w.heap[D]? = some (.deferred (some []))
theorem RC.range {id m gf : Nat} {g : Operand} {ps : Array Tmp} {assign body : Code} {cs : List Value} {F : List (Nat × Value)} (hg : XL.ev F g = some (.func (.func gf) #[] cs.toArray)) (hf : calleeOK P gf = true)
    (h : ∀ (r : Loop) (W1 : World), r.state = .ready → r.pending = none → r.params = ps → r.assign = assign → r.body = body → Knows ⟨m, some (some (w.heap.size + 1)), []⟩ F { tmps := r.tmps, defers := [] } → Sub w W1 → W1.heap.size = w.heap.size + 2 → Lp (w.heap.size + 1) r W1 → Df w.heap.size W1 →
      FC P gf (.func (.yield (w.heap.size + 1)) #[] #[] :: cs) W1 (fun _ W2 => ∃ r2, Lp (w.heap.size + 1) r2 W2 ∧ r2.state ≠ .busy ∧ ∀ W3, Agr (· = w.heap.size + 1) W2 W3 → W3.heap.size = W2.heap.size →
        ((r2.pending = none ∨ r2.pending = some (.exit id)) ∧ (∀ a, Knows ⟨m, some none, [markD w.heap.size]⟩ F a → p.nrm a W3) ∨ r2.pending = some .ret ∧ ∀ a, Knows ⟨m, some none, [markD w.heap.size]⟩ F a → p.ret a W3))) :
    RC P ⟨m, some none, []⟩ (.block id (.rangeFunc g ps assign body)) F w p := by
  intro a k
  rw [cwp_some rfl]
  refine wpIn_block (wpIn_rangeFunc ?_)
  intro fn _
  obtain ⟨r, hr⟩ : ∃ r : Loop, r = { state := .ready, pending := none, fn, tmps := a.tmps, params := ps, assign, body, defers := w.heap.size } := ⟨_, rfl⟩
  obtain ⟨W1, hW1⟩ : ∃ W1, W1 = (w.alloc (.deferred (some []))).alloc (.loop r) := ⟨_, rfl⟩
  have hL1 : Lp (w.heap.size + 1) r W1 := by
    have := World.alloc_heap_new (w.alloc (.deferred (some []))) (.loop r)
    rw [World.size_alloc] at this
    rw [hW1]; exact this
  have hD1 : Df w.heap.size W1 := by
    rw [hW1]
    have := World.alloc_heap_new w (.deferred (some []))
    unfold Df
    rw [heap_alloc_old' _ _ (by simp)]
    exact this
  have hS1 : Sub w W1 := by
    rw [hW1]
    exact ⟨rfl, rfl, rfl, by simp; omega, fun k hk => by rw [heap_alloc_old' _ _ (by simp; omega), heap_alloc_old' _ _ hk]⟩
  have hz1 : W1.heap.size = w.heap.size + 2 := by rw [hW1]; simp
  have hga : a.eval g = .func (.func gf) #[] cs.toArray := k.agrees _ _ hg
  refine ⟨w.heap.size + 1, [markD w.heap.size], W1, { target := .fn (.func gf) cs.toArray, args := #[.func (.yield (w.heap.size + 1)) #[] #[]] }, W1, gf, #[.func (.yield (w.heap.size + 1)) #[] #[]] ++ cs.toArray, W1, ?_, ?_, fun _ _ => trivial, ?_, fun e => (by cases e), ?_⟩
  · rw [hW1, hr]; exact run_enterLoop_outer _ _ _ _ _
  · simp only [resolve, hga]
    simp [go_sem]
  · simp only [invoke]
    exact run_callFunc hf
  · have hk1 : Knows ⟨m, some (some (w.heap.size + 1)), []⟩ F { tmps := r.tmps, defers := [] } := by
      rw [hr]; exact ⟨k.size, rfl, k.slot⟩
    have hc := h r W1 (by rw [hr]) (by rw [hr]) (by rw [hr]) (by rw [hr]) (by rw [hr]) hk1 hS1 hz1 hL1 hD1
    unfold FC at hc
    rw [List.toArray_cons] at hc
    refine CallsIn.mono (callsIn_wide.2 hc) ?_
    rintro e W2 ⟨v, rfl, r2, h1, h2, h3⟩
    refine ⟨_, _, run_endLoop h1 h2, ?_⟩
    have h4 := h3 (W2.putObj (w.heap.size + 1) (.loop { r2 with state := .exhausted })) agr_put (by simp)
    generalize W2.putObj (w.heap.size + 1) (.loop { r2 with state := .exhausted }) = W3 at h4 ⊢
    have hk3 : Knows ⟨m, some none, [markD w.heap.size]⟩ F { a with defers := [markD w.heap.size] ++ a.defers } := ⟨k.size, by simp [k.defers], k.slot⟩
    rcases h4 with ⟨h4 | h4, h5⟩ | ⟨h4, h5⟩
    · rw [h4]
      exact h5 _ hk3
    · rw [h4]
      refine wpIn_exit ?_
      simp only [Exit.inBlock, if_pos]
      exact h5 _ hk3
    · rw [h4]
      exact wpIn_ret (h5 _ hk3)
theorem RC.backM {m : Nat} {mk : List Deferred} {y : Code} {q : Post} {F : List (Nat × Value)} (h : RC P ⟨m, some none, mk⟩ y F w q) : ∀ a, Knows ⟨m, some none, mk⟩ F a → (fun a w => cwp ⟨m, some none, []⟩ P y q.q a w) a w := h
/-- how the record stands: b = the loop goes on -/
def recB (r : Loop) (id : Nat) (b : Bool) : Loop := { r with state := if b then .ready else .done, pending := if b then none else some (.exit id) }
theorem recB_nb {r : Loop} {id : Nat} {b : Bool} : (recB r id b).state ≠ .busy := by cases b <;> simp [recB]
theorem recB_pe {r : Loop} {id : Nat} {b : Bool} : (recB r id b).pending = none ∨ (recB r id b).pending = some (.exit id) := by cases b <;> simp [recB]
theorem recB_0 {r : Loop} {id : Nat} (h1 : r.state = .ready) (h2 : r.pending = none) : r = recB r id true := by cases r; simp_all [recB]
theorem knows1 {n : Cx} {F : List (Nat × Value)} {tmps : Array Value} {ps : Array Tmp} {t : Nat} {v : Value} (hps : ps = #[t]) (h : Knows n F { tmps := tmps, defers := [] }) (hd : inB (some t) n = true) :
    Knows n (upd F (some t) v) { tmps := (ps.zip [v].toArray).foldl (fun tmps (t, a) => tmps.setIfInBounds t a) tmps, defers := [] } := by
  subst hps
  have := h.upd (some t) v hd
  simpa [Act.put] using this
/-! ### the ends of a function that holds ranges -/
theorem RC.doneM0 {fn : Func} {R : Value → World → Prop} {rs : List ResultVar} {vs : List Value} (hrs : fn.results = rs.toArray) (hp : p.ret = (Post.fnM P fn R).ret) (hv : resVs P F w rs vs) (hR : R (tup vs) w) (hM : n.marks = [] := by rfl) : RC P n .ret F w p :=
  RC.ret fun a k => by
    rw [hp]
    refine ⟨.inl (k.defers.trans hM), ?_⟩
    rintro w' (⟨rfl, _⟩ | ⟨D, h, _⟩)
    · exact ⟨_, run_results k hrs hv, hR⟩
    · rw [k.defers.trans hM] at h; cases h
theorem RC.doneM {fn : Func} {D : Nat} {R : Value → World → Prop} {rs : List ResultVar} {vs : List Value} (hrs : fn.results = rs.toArray) (hp : p.ret = (Post.fnM P fn R).ret) (hv : ∀ w, resVs P F w rs vs) (hD : Df D w) (hR : ∀ w', Agr (· = D) w w' → w'.heap.size = w.heap.size → R (tup vs) w') (hM : n.marks = [markD D] := by rfl) : RC P n .ret F w p :=
  RC.ret fun a k => by
    rw [hp]
    refine ⟨.inr ⟨D, k.defers.trans hM, hD⟩, ?_⟩
    rintro w' (⟨_, h⟩ | ⟨D', h, e⟩)
    · rw [k.defers.trans hM] at h; cases h
    · rw [k.defers.trans hM] at h
      obtain rfl : D = D' := by
        have := (List.cons.inj h).1
        simp only [markD, Deferred.mk.injEq, Target.collected.injEq] at this
        exact this.1
      subst e
      exact ⟨_, run_results k hrs (hv _), hR _ agr_put (by simp)⟩
theorem Df.lt {D w} (h : Df D w) : D < w.heap.size := by
  unfold Df at h
  rcases Nat.lt_or_ge D w.heap.size with q | q
  · exact q
  · rw [Array.getElem?_eq_none q] at h; cases h
theorem Df.step {N : Nat → Prop} {D w w'} (h : Df D w) (k : Agr N w w') (hn : ¬ N D) : Df D w' := (k.block D h.lt hn).trans h
theorem Df.sub {D w w'} (h : Df D w) (s : Sub w w') : Df D w' := (s.block D h.lt).trans h
theorem Df.upd {D w w' b} (h : Df D w) (a : Agr (· = b) w w') (hn : D ≠ b) : Df D w' := h.step a hn
theorem Df.ne {D w b} (h : Df D w) (hb : b = w.heap.size) : D ≠ b := fun e => by have := h.lt; omega

/-! ### what a footprint may grow to -/
def Up (C : Nat → Prop) (w : World) (C' : Nat → Prop) : Prop := ∀ k, C' k → C k ∨ w.heap.size ≤ k
theorem Up.refl (C : Nat → Prop) (w : World) : Up C w C := fun _ h => .inl h
theorem Up.le {C C' : Nat → Prop} {w w1 : World} (h : Up C w1 C') (hz : w.heap.size ≤ w1.heap.size) : Up C w C' := fun k hk => (h k hk).imp id (Nat.le_trans hz)
theorem Up.trans {C C1 C2 : Nat → Prop} {w : World} (h : Up C w C1) (k : Up C1 w C2) : Up C w C2 := fun i hi => (k i hi).elim (h i) .inr
theorem Up.not {C C' : Nat → Prop} {w : World} {b : Nat} (h : Up C w C') (hb : b < w.heap.size) (hn : ¬ C b) : ¬ C' b := fun e => (h b e).elim hn (fun e => by omega)
theorem upNe {M M' : Nat → Prop} {w : World} {b : Nat} (h : Up M w M') (d : ∀ k, M k → k ≠ b) (hb : b < w.heap.size) : ∀ k, M' k → k ≠ b := fun k hk e => h.not hb (fun e' => d _ e' rfl) (e ▸ hk)
theorem upDD {M M' : Nat → Prop} {w : World} {v : Value} (h : Up M w M') (d : ∀ k, ob v = some k → M k → False) (hb : ∀ k, ob v = some k → k < w.heap.size) : ∀ k, ob v = some k → M' k → False := fun k hk => h.not (hb k hk) (d k hk)
theorem _root_.Go.XL.Agr.up {C C1 : Nat → Prop} {w w1 w2 : World} (h : Agr C w w1) (u : Up C w C1) (k : Agr C1 w1 w2) : Agr C w w2 :=
  ⟨k.os.trans h.os, k.tape.trans h.tape, k.output.trans h.output, Nat.le_trans h.size k.size, fun i hi hn =>
    (k.block i (Nat.lt_of_lt_of_le hi h.size) (u.not hi hn)).trans (h.block i hi hn)⟩
/-! ### what yield owes, what a function that is handed in owes -/
/-- C are the blocks that it may turn; it may add new ones; cnt goes on by one at most, and stays below N -/
def YT {σ α : Type} (P : Program) (l : Nat) (enc : α → Value) (ok : α → Prop) (cnt : σ → Nat) (N : Nat) (H : σ → Bool → (Nat → Prop) → World → Prop) (step : σ → α → σ × Bool) : Prop :=
  ∀ (s : σ) (x : α) (C : Nat → Prop) (W : World), ok x → cnt s < N → Ft C (H s true C) W → FY P l [enc x] W (fun v w' => ∃ C', v = .bool (step s x).2 ∧ Ft C' (H (step s x).1 (step s x).2 C') w' ∧ Agr C W w' ∧ Up C W C')
def FT {σ α : Type} (P : Program) (f : FuncId) (cs : List Value) (enc : α → Value) (ok : α → Prop) (cnt : σ → Nat) (N : Nat) (H : σ → (Nat → Prop) → World → Prop) (step : σ → α → σ × Bool) : Prop :=
  ∀ (s : σ) (x : α) (C : Nat → Prop) (W : World), ok x → cnt s < N → Ft C (H s C) W → FC P f ([enc x] ++ cs) W (fun v w' => ∃ C', v = .bool (step s x).2 ∧ Ft C' (H (step s x).1 C') w' ∧ Agr C W w' ∧ Up C W C')
/-- all of a row, until it is enough -/
def pushF {σ α : Type} (step : σ → α → σ × Bool) (s : σ) : List α → σ × Bool
  | [] => (s, true)
  | x :: xs => if (step s x).2 = true then pushF step (step s x).1 xs else ((step s x).1, false)
section
variable {σ α : Type} {step : σ → α → σ × Bool} {s : σ} {x : α}
theorem pushF_app {L R : List α} (h : (pushF step s L).2 = true) : pushF step s (L ++ R) = pushF step (pushF step s L).1 R := by
  induction L generalizing s with
  | nil => rfl
  | cons y L ih =>
    simp only [List.cons_append, pushF] at h ⊢
    by_cases q : (step s y).2 = true
    · rw [if_pos q] at h; rw [if_pos q, if_pos q]; exact ih h
    · rw [if_neg q] at h; cases h
theorem pushF_l {L R : List α} (h : (pushF step s L).2 = false) : pushF step s (L ++ R) = pushF step s L := by
  induction L generalizing s with
  | nil => simp [pushF] at h
  | cons y L ih =>
    simp only [List.cons_append, pushF] at h ⊢
    by_cases q : (step s y).2 = true
    · rw [if_pos q] at h; rw [if_pos q, if_pos q]; exact ih h
    · rw [if_neg q, if_neg q]
theorem pushF_cnt {cnt : σ → Nat} (h : ∀ s x, cnt (step s x).1 ≤ cnt s + 1) : ∀ (L : List α) (s : σ), cnt (pushF step s L).1 ≤ cnt s + L.length
  | [], s => Nat.le_refl _
  | x :: L, s => by
    have h1 := h s x
    rw [pushF]
    split
    · have := pushF_cnt h L (step s x).1
      simp only [List.length_cons]; omega
    · simp only [List.length_cons]; omega
theorem pushF_t {xs : List α} (h : (step s x).2 = true) : pushF step s (x :: xs) = pushF step (step s x).1 xs := by rw [pushF, if_pos h]
theorem pushF_f {xs : List α} (h : (step s x).2 = false) : pushF step s (x :: xs) = ((step s x).1, false) := by rw [pushF, if_neg (by simp [h])]
end
end
end Go.Proofs.Ytjafbffehmombaa
