/-
  The package arena and its reference: nodes, which arenas may be, what is got.
-/
import Derived.Test.YtefakjhfcgjhgaaRef
set_option linter.unusedVariables false
set_option linter.unusedSimpArgs false
namespace Go.Proofs.Ytefakjhfcgjhgaa
open Go Go.XL

structure Node where
  kind : Int
  gen : Int
  n : Int
  v : Int
  s : Int
  k0 : Int
  k1 : Int
  k2 : Int
  k3 : Int
  k4 : Int
  k5 : Int
  k6 : Int
  k7 : Int
  k8 : Int
  pre : Int
  suf : Int
  deriving DecidableEq

def u6 (x : Int) : Value := .int .u64 x
def i6 (x : Int) : Value := .int .i64 x
def Node.kids (x : Node) : List Int := [x.k0, x.k1, x.k2, x.k3, x.k4, x.k5, x.k6, x.k7, x.k8]
def Node.cells (x : Node) : List Value :=
  [.int .i64 x.kind, .int .i64 x.gen, .int .i64 x.n, .int .i64 x.v, .int .i64 x.s, .int .u64 x.k0, .int .u64 x.k1, .int .u64 x.k2, .int .u64 x.k3, .int .u64 x.k4, .int .u64 x.k5, .int .u64 x.k6, .int .u64 x.k7, .int .u64 x.k8, .int .i64 x.pre, .int .i64 x.suf]
def Node.val (x : Node) : Value := .agg x.cells.toArray
def bareN (g : Int) : Node := ⟨0, g, 0, 0, 0, 0, 0, 0, 0, 0, 0, 0, 0, 0, 0, 0⟩
structure Node.ok (x : Node) : Prop where
  kind : I64 x.kind
  gen : I64 x.gen
  n : I64 x.n
  v : I64 x.v
  s : I64 x.s
  kids : ∀ k ∈ x.kids, U64 k
  pre : I64 x.pre
  suf : I64 x.suf
theorem z64 : I64 0 := by unfold I64; omega
theorem zu64 : U64 0 := by unfold U64; omega
theorem bareN_ok {g : Int} (h : I64 g) : (bareN g).ok :=
  ⟨z64, h, z64, z64, z64, fun k hk => by
    simp [Node.kids, bareN] at hk
    subst hk
    exact zu64, z64, z64⟩
theorem getSome {α : Type} {l : List α} {i : Nat} (h : i < l.length) : ∃ x, l[i]? = some x := ⟨_, List.getElem?_eq_getElem h⟩
theorem lt_of_get {α : Type} {l : List α} {i : Nat} {x : α} (h : l[i]? = some x) : i < l.length := by
  rcases Nat.lt_or_ge i l.length with q | q
  · exact q
  · rw [List.getElem?_eq_none q] at h; cases h
theorem getElem_of {α : Type} {l : List α} {i : Nat} {x : α} (h : l[i]? = some x) (hi : i < l.length) : l[i] = x := by
  rw [List.getElem?_eq_getElem hi] at h; cases h; rfl

/-- may a node's numbers and references be? -/
def well (x : Node) : Bool := decide (0 ≤ x.gen ∧ x.gen ≤ 1048576 ∧ 0 ≤ x.pre ∧ x.pre ≤ 9 ∧ 0 ≤ x.suf ∧ x.suf ≤ 9) && x.kids.all rightR
theorem well_iff (x : Node) : well x = true ↔ (0 ≤ x.gen ∧ x.gen ≤ 1048576 ∧ 0 ≤ x.pre ∧ x.pre ≤ 9 ∧ 0 ≤ x.suf ∧ x.suf ≤ 9) ∧ x.kids.all rightR = true := by
  unfold well; rw [Bool.and_eq_true, decide_eq_true_iff]

structure Ar where
  nodes : List Node
  free : List Int
/-- which arenas may be -/
structure AOk (A : Ar) : Prop where
  one : 1 ≤ A.nodes.length
  most : A.nodes.length ≤ 512
  fit : A.free.length ≤ A.nodes.length
  free : ∀ x ∈ A.free, 0 ≤ x ∧ x < A.nodes.length
  nodup : A.free.Nodup
  well : ∀ x ∈ A.nodes, well x = true
  kind : ∀ (i : Nat) x, A.nodes[i]? = some x → (x.kind = 0 ↔ (i : Int) ∈ A.free)
  bare : ∀ (i : Nat) x, A.nodes[i]? = some x → (i : Int) ∈ A.free → x = bareN x.gen

/-- slices of numbers -/
def I1 (l : List Int) : List (List Value) := l.map fun x => [i6 x]
def U1 (l : List Int) : List (List Value) := l.map fun x => [u6 x]
/-- an arena lies in memory -/
structure ArR (w : World) (na fa : Option Addr) (A : Ar) : Prop where
  nodes : Sl w na 16 (A.nodes.map Node.cells)
  free : Sl w fa 1 (A.free.map fun x => [i6 x])
  nok : ∀ x ∈ A.nodes, x.ok
  fok : ∀ x ∈ A.free, I64 x
theorem ArR.sub {w w' na fa A} (h : ArR w na fa A) (s : Sub w w') : ArR w' na fa A := ⟨h.nodes.sub s, h.free.sub s, h.nok, h.fok⟩
def arV (na fa : Option Addr) (nc fc : Nat) (A : Ar) : Value := .agg #[.slice na A.nodes.length nc, .slice fa A.free.length fc]

theorem c_well1 (r : Int) (hr : U64 r) (w : World) : FC Try.prog 70 [.int .u64 r] w (Val (.bool (!rightR r)) w) := by
  refine FC.intro Try.func70 rfl Try.ntmps70 rfl ?_
  have S := Sub.refl w
  refine RC.seq ?_
  refine RC.region rfl ?_
  refine RL.ev (.assign rfl) rfl rfl ?_
  refine RL.nil (RC.back ?_)
  refine RC.seq ?_
  refine RC.region rfl ?_
  refine RL.ev (.move rfl) rfl rfl ?_
  refine RL.call rfl ok71 (c_refRight r hr w) rfl rfl ?_
  rintro _ w1 ⟨rfl, s2⟩
  have S := S.trans s2
  refine RL.ev (.not rfl) rfl rfl ?_
  refine RL.ev (.assign rfl) rfl rfl ?_
  refine RL.nil (RC.back ?_)
  refine RC.done (rs := [.tmp 2]) (vs := [_]) rfl rfl ⟨rfl, trivial⟩ ?_
  -- end 1
  exact ⟨rfl, S⟩

/-- the place of the first one for which p is; -1: there is none -/
def idxOf {α : Type} (p : α → Bool) (l : List α) : Int := if l.any p then (l.findIdx p : Int) else -1
theorem c_indexRef (p : Int → Bool) (l : List Int) (a : Option Addr) (c : Nat) (f : FuncId) (hf : calleeOK Try.prog f = true) (us cs : List Value) (w : World) (hs : Sl w a 1 (l.map fun x => [u6 x])) (hlen : l.length ≤ 1000000)
    (hp : ∀ x ∈ l, ∀ w', Sub w w' → FC Try.prog f (us ++ [u6 x] ++ cs) w' (Val (.bool (p x)) w')) :
    FC Try.prog 73 [.slice a l.length c, .func (.func f) us.toArray cs.toArray] w (Val (.int .i64 (idxOf p l)) w) := by
  refine FC.intro Try.func73 rfl Try.ntmps73 rfl ?_
  have S := Sub.refl w
  refine RC.seq ?_
  refine RC.region rfl ?_
  refine RL.ev (.assign rfl) rfl rfl ?_
  refine RL.nil (RC.back ?_)
  refine RC.seq ?_
  refine RC.seq ?_
  refine RC.region rfl ?_
  refine RL.ev (.move rfl) rfl rfl ?_
  refine RL.ev (.len sl61 rfl) rfl rfl ?_
  refine RL.ev (.move rfl) rfl rfl ?_
  refine RL.nil (RC.back ?_)
  refine RC.block ?_
  refine RC.loop (α := Nat) (fun i => [(0, .slice a l.length c), (1, .func (.func f) us.toArray cs.toArray), (7, .int .i64 (l.length : Int)), (8, .int .i64 (i : Int))]) (fun i w1 => i ≤ l.length ∧ (∀ j x, l[j]? = some x → j < i → p x = false) ∧ Sub w w1) (fun i => l.length - i) 0 (keep_of (by repeat (first | exact trivial | refine And.intro rfl ?_))) (⟨Nat.zero_le _, fun j x _ h => absurd h (by omega), S⟩) (fun i w1 hJ => ?_)
  obtain ⟨hi, hn, S⟩ := hJ
  refine RC.seq ?_
  refine RC.region rfl ?_
  refine RL.ev (.bin rfl rfl rfl) rfl rfl ?_
  refine RL.nil (RC.back ?_)
  refine RC.seq ?_
  refine RC.cond_dec rfl (fun h2 => ?_) (fun h2 => ?_)
  ·
    obtain ⟨x, hx⟩ := getSome (l := l) (i := i) (by omega)
    refine RC.skip (RC.back ?_)
    refine RC.seq ?_
    refine RC.block ?_
    refine RC.seq ?_
    refine RC.region rfl ?_
    refine RL.ev (.move rfl) rfl rfl ?_
    refine RL.ev (.assign rfl) rfl rfl ?_
    refine RL.nil (RC.back ?_)
    refine RC.seq ?_
    refine RC.region rfl ?_
    refine RL.ev (.move rfl) rfl rfl ?_
    refine RL.ev (.move rfl) rfl rfl ?_
    refine RL.ev (.move rfl) rfl rfl ?_
    refine RL.ev (.indexS sl61 rfl rfl (by omega) (hs.is (i := 0) (by simp only [List.length_map]; omega))) rfl rfl ?_
    refine RL.ev (.load1 sh28 rfl ((hs.sub S).one (enc := u6) (i := i) hx)) rfl rfl ?_
    refine RL.callv rfl rfl (us := us) (cs := cs) hf (hp x (List.mem_of_getElem? hx) _ S) rfl rfl ?_
    rintro _ w3 ⟨rfl, s4⟩
    have S := S.trans s4
    refine RL.nil (RC.back ?_)
    refine RC.cond rfl (fun h5 => ?_) (fun h5 => ?_)
    ·
      have hv := h5
      refine RC.seq ?_
      refine RC.region rfl ?_
      refine RL.ev (.move rfl) rfl rfl ?_
      refine RL.ev (.assign rfl) rfl rfl ?_
      refine RL.nil (RC.back ?_)
      refine RC.done (rs := [.tmp 4]) (vs := [_]) rfl rfl ⟨rfl, trivial⟩ ?_
      -- end 1
      refine ⟨?_, S⟩
      show Value.int .i64 _ = _
      congr 1
      rw [idxOf, if_pos (List.any_eq_true.2 ⟨x, List.mem_of_getElem? hx, hv⟩)]
      congr 1
      symm
      have hlt := lt_of_get hx
      rw [List.findIdx_eq hlt]
      exact ⟨by rw [getElem_of hx hlt]; exact hv, fun j hj => hn j _ (List.getElem?_eq_getElem (by omega)) hj⟩
    ·
      have hv := h5
      refine RC.skip (RC.back ?_)
      refine RC.region rfl ?_
      refine RL.ev (.as (.bin rfl rfl rfl) (wi64 (y := ((i + 1 : Nat) : Int)) (by omega) (by omega))) rfl rfl ?_
      refine RL.ev (.move rfl) rfl rfl ?_
      exact RL.nil (fun a ka => ⟨i + 1, ⟨by omega, fun j x hj h => (Nat.lt_succ_iff_lt_or_eq.1 h).elim (hn j x hj) (fun e => by subst e; rw [hx] at hj; cases hj; exact hv), S⟩, by omega, ka.keep (keep_of (by repeat (first | exact trivial | refine And.intro rfl ?_)))⟩)
  ·
    refine RC.exit rfl (RC.back ?_)
    refine RC.seq ?_
    refine RC.region rfl ?_
    refine RL.ev (.assign rfl) rfl rfl ?_
    refine RL.nil (RC.back ?_)
    refine RC.done (rs := [.tmp 4]) (vs := [_]) rfl rfl ⟨rfl, trivial⟩ ?_
    -- end 2
    refine ⟨?_, S⟩
    show Value.int .i64 _ = _
    congr 1
    rw [idxOf, if_neg]
    intro hh
    obtain ⟨x, hx, hpx⟩ := List.any_eq_true.1 hh
    obtain ⟨j, hj, rfl⟩ := List.getElem_of_mem hx
    have := hn j _ (List.getElem?_eq_getElem hj) (by omega)
    rw [this] at hpx
    cases hpx

theorem c_containsRef (p : Int → Bool) (l : List Int) (a : Option Addr) (c : Nat) (f : FuncId) (hf : calleeOK Try.prog f = true) (us cs : List Value) (w : World) (hs : Sl w a 1 (l.map fun x => [u6 x])) (hlen : l.length ≤ 1000000)
    (hp : ∀ x ∈ l, ∀ w', Sub w w' → FC Try.prog f (us ++ [u6 x] ++ cs) w' (Val (.bool (p x)) w')) :
    FC Try.prog 69 [.slice a l.length c, .func (.func f) us.toArray cs.toArray] w (Val (.bool (l.any p)) w) := by
  refine FC.intro Try.func69 rfl Try.ntmps69 rfl ?_
  have S := Sub.refl w
  refine RC.seq ?_
  refine RC.region rfl ?_
  refine RL.ev (.assign rfl) rfl rfl ?_
  refine RL.nil (RC.back ?_)
  refine RC.seq ?_
  refine RC.region rfl ?_
  refine RL.ev (.move rfl) rfl rfl ?_
  refine RL.ev (.move rfl) rfl rfl ?_
  refine RL.call rfl ok73 (c_indexRef p l a c f hf us cs w (hs.sub S) hlen (fun x hx w' s => hp x hx w' (S.trans s))) rfl rfl ?_
  rintro _ w1 ⟨rfl, s2⟩
  have S := S.trans s2
  refine RL.ev (.bin rfl rfl rfl) rfl rfl ?_
  refine RL.ev (.assign rfl) rfl rfl ?_
  refine RL.nil (RC.back ?_)
  refine RC.done (rs := [.tmp 4]) (vs := [_]) rfl rfl ⟨rfl, trivial⟩ ?_
  -- end 1
  refine ⟨?_, S⟩
  show Value.bool _ = _
  congr 1
  unfold idxOf
  cases h : l.any p with
  | true => exact decide_eq_true (by rw [if_pos rfl]; exact Int.natCast_nonneg _)
  | false => exact decide_eq_false (by rw [if_neg (by decide)]; decide)

theorem any_not {α : Type} (p : α → Bool) (l : List α) : (!l.any fun x => !p x) = l.all p := by
  induction l with
  | nil => rfl
  | cons x l ih => simp [← ih]
theorem c_well (x : Node) (hx : x.ok) (w : World) : FC Try.prog 61 [x.val] w (Val (.bool (well x)) w) := by
  refine FC.intro Try.func61 rfl Try.ntmps61 rfl ?_
  have S := Sub.refl w
  refine RC.seq ?_
  refine RC.region rfl ?_
  refine RL.box rfl rfl rfl (fun b_1 w_1 e_1 z_1 hb_1 s_1 => ?_)
  have ge_1 := S.le e_1
  have S := S.trans s_1
  refine RL.ev (.assign rfl) rfl rfl ?_
  refine RL.nil (RC.back ?_)
  refine RC.seq ?_
  refine RC.seq ?_
  refine RC.region rfl ?_
  refine RL.ev (.field0 fo73_1 rfl) rfl rfl ?_
  refine RL.ev (.load1 sh3 rfl (hb_1.cell rfl)) rfl rfl ?_
  refine RL.ev (.bin rfl rfl rfl) rfl rfl ?_
  refine RL.ev (.move rfl) rfl rfl ?_
  refine RL.split 6 rfl (fun h1 => ?_) (fun h1 => ?_)
  ·
    refine RL.off rfl rfl ?_
    refine RL.off rfl rfl ?_
    refine RL.off rfl rfl ?_
    refine RL.ev (.pick_t rfl rfl) rfl rfl ?_
    refine RL.ev (.move rfl) rfl rfl ?_
    refine RL.off rfl rfl ?_
    refine RL.off rfl rfl ?_
    refine RL.off rfl rfl ?_
    refine RL.ev (.pick_t rfl rfl) rfl rfl ?_
    refine RL.ev (.move rfl) rfl rfl ?_
    refine RL.off rfl rfl ?_
    refine RL.off rfl rfl ?_
    refine RL.off rfl rfl ?_
    refine RL.ev (.pick_t rfl rfl) rfl rfl ?_
    refine RL.ev (.move rfl) rfl rfl ?_
    refine RL.off rfl rfl ?_
    refine RL.off rfl rfl ?_
    refine RL.off rfl rfl ?_
    refine RL.ev (.pick_t rfl rfl) rfl rfl ?_
    refine RL.ev (.move rfl) rfl rfl ?_
    refine RL.off rfl rfl ?_
    refine RL.off rfl rfl ?_
    refine RL.off rfl rfl ?_
    refine RL.ev (.pick_t rfl rfl) rfl rfl ?_
    refine RL.nil (RC.back ?_)
    refine RC.cond_t rfl ?_
    refine RC.seq ?_
    refine RC.region rfl ?_
    refine RL.ev (.assign rfl) rfl rfl ?_
    refine RL.nil (RC.back ?_)
    refine RC.done (rs := [.tmp 2]) (vs := [_]) rfl rfl ⟨rfl, trivial⟩ ?_
    -- end 1
    refine ⟨?_, S⟩
    show Value.bool _ = _
    congr 1
    symm
    rw [Bool.eq_false_iff]
    intro h
    have := (well_iff x).1 h
    omega
  ·
    refine RL.ev (.field0 fo73_1 rfl) rfl rfl ?_
    refine RL.ev (.load1 sh3 rfl (hb_1.cell rfl)) rfl rfl ?_
    refine RL.ev (.bin rfl rfl rfl) rfl rfl ?_
    refine RL.ev (.pick_f rfl rfl) rfl rfl ?_
    refine RL.ev (.move rfl) rfl rfl ?_
    refine RL.split 11 rfl (fun h2 => ?_) (fun h2 => ?_)
    ·
      refine RL.off rfl rfl ?_
      refine RL.off rfl rfl ?_
      refine RL.off rfl rfl ?_
      refine RL.ev (.pick_t rfl rfl) rfl rfl ?_
      refine RL.ev (.move rfl) rfl rfl ?_
      refine RL.off rfl rfl ?_
      refine RL.off rfl rfl ?_
      refine RL.off rfl rfl ?_
      refine RL.ev (.pick_t rfl rfl) rfl rfl ?_
      refine RL.ev (.move rfl) rfl rfl ?_
      refine RL.off rfl rfl ?_
      refine RL.off rfl rfl ?_
      refine RL.off rfl rfl ?_
      refine RL.ev (.pick_t rfl rfl) rfl rfl ?_
      refine RL.ev (.move rfl) rfl rfl ?_
      refine RL.off rfl rfl ?_
      refine RL.off rfl rfl ?_
      refine RL.off rfl rfl ?_
      refine RL.ev (.pick_t rfl rfl) rfl rfl ?_
      refine RL.nil (RC.back ?_)
      refine RC.cond_t rfl ?_
      refine RC.seq ?_
      refine RC.region rfl ?_
      refine RL.ev (.assign rfl) rfl rfl ?_
      refine RL.nil (RC.back ?_)
      refine RC.done (rs := [.tmp 2]) (vs := [_]) rfl rfl ⟨rfl, trivial⟩ ?_
      -- end 2
      refine ⟨?_, S⟩
      show Value.bool _ = _
      congr 1
      symm
      rw [Bool.eq_false_iff]
      intro h
      have := (well_iff x).1 h
      omega
    ·
      refine RL.ev (.field0 fo73_6 rfl) rfl rfl ?_
      refine RL.ev (.load1 sh3 rfl (hb_1.cell rfl)) rfl rfl ?_
      refine RL.ev (.bin rfl rfl rfl) rfl rfl ?_
      refine RL.ev (.pick_f rfl rfl) rfl rfl ?_
      refine RL.ev (.move rfl) rfl rfl ?_
      refine RL.split 16 rfl (fun h3 => ?_) (fun h3 => ?_)
      ·
        refine RL.off rfl rfl ?_
        refine RL.off rfl rfl ?_
        refine RL.off rfl rfl ?_
        refine RL.ev (.pick_t rfl rfl) rfl rfl ?_
        refine RL.ev (.move rfl) rfl rfl ?_
        refine RL.off rfl rfl ?_
        refine RL.off rfl rfl ?_
        refine RL.off rfl rfl ?_
        refine RL.ev (.pick_t rfl rfl) rfl rfl ?_
        refine RL.ev (.move rfl) rfl rfl ?_
        refine RL.off rfl rfl ?_
        refine RL.off rfl rfl ?_
        refine RL.off rfl rfl ?_
        refine RL.ev (.pick_t rfl rfl) rfl rfl ?_
        refine RL.nil (RC.back ?_)
        refine RC.cond_t rfl ?_
        refine RC.seq ?_
        refine RC.region rfl ?_
        refine RL.ev (.assign rfl) rfl rfl ?_
        refine RL.nil (RC.back ?_)
        refine RC.done (rs := [.tmp 2]) (vs := [_]) rfl rfl ⟨rfl, trivial⟩ ?_
        -- end 3
        refine ⟨?_, S⟩
        show Value.bool _ = _
        congr 1
        symm
        rw [Bool.eq_false_iff]
        intro h
        have := (well_iff x).1 h
        omega
      ·
        refine RL.ev (.field0 fo73_6 rfl) rfl rfl ?_
        refine RL.ev (.load1 sh3 rfl (hb_1.cell rfl)) rfl rfl ?_
        refine RL.ev (.bin rfl rfl rfl) rfl rfl ?_
        refine RL.ev (.pick_f rfl rfl) rfl rfl ?_
        refine RL.ev (.move rfl) rfl rfl ?_
        refine RL.split 21 rfl (fun h4 => ?_) (fun h4 => ?_)
        ·
          refine RL.off rfl rfl ?_
          refine RL.off rfl rfl ?_
          refine RL.off rfl rfl ?_
          refine RL.ev (.pick_t rfl rfl) rfl rfl ?_
          refine RL.ev (.move rfl) rfl rfl ?_
          refine RL.off rfl rfl ?_
          refine RL.off rfl rfl ?_
          refine RL.off rfl rfl ?_
          refine RL.ev (.pick_t rfl rfl) rfl rfl ?_
          refine RL.nil (RC.back ?_)
          refine RC.cond_t rfl ?_
          refine RC.seq ?_
          refine RC.region rfl ?_
          refine RL.ev (.assign rfl) rfl rfl ?_
          refine RL.nil (RC.back ?_)
          refine RC.done (rs := [.tmp 2]) (vs := [_]) rfl rfl ⟨rfl, trivial⟩ ?_
          -- end 4
          refine ⟨?_, S⟩
          show Value.bool _ = _
          congr 1
          symm
          rw [Bool.eq_false_iff]
          intro h
          have := (well_iff x).1 h
          omega
        ·
          refine RL.ev (.field0 fo73_7 rfl) rfl rfl ?_
          refine RL.ev (.load1 sh3 rfl (hb_1.cell rfl)) rfl rfl ?_
          refine RL.ev (.bin rfl rfl rfl) rfl rfl ?_
          refine RL.ev (.pick_f rfl rfl) rfl rfl ?_
          refine RL.ev (.move rfl) rfl rfl ?_
          refine RL.split 26 rfl (fun h5 => ?_) (fun h5 => ?_)
          ·
            refine RL.off rfl rfl ?_
            refine RL.off rfl rfl ?_
            refine RL.off rfl rfl ?_
            refine RL.ev (.pick_t rfl rfl) rfl rfl ?_
            refine RL.nil (RC.back ?_)
            refine RC.cond_t rfl ?_
            refine RC.seq ?_
            refine RC.region rfl ?_
            refine RL.ev (.assign rfl) rfl rfl ?_
            refine RL.nil (RC.back ?_)
            refine RC.done (rs := [.tmp 2]) (vs := [_]) rfl rfl ⟨rfl, trivial⟩ ?_
            -- end 5
            refine ⟨?_, S⟩
            show Value.bool _ = _
            congr 1
            symm
            rw [Bool.eq_false_iff]
            intro h
            have := (well_iff x).1 h
            omega
          ·
            refine RL.ev (.field0 fo73_7 rfl) rfl rfl ?_
            refine RL.ev (.load1 sh3 rfl (hb_1.cell rfl)) rfl rfl ?_
            refine RL.ev (.bin rfl rfl rfl) rfl rfl ?_
            refine RL.ev (.pick_f rfl rfl) rfl rfl ?_
            refine RL.nil (RC.back ?_)
            refine RC.cond_dec rfl (fun h6 => ?_) (fun h6 => ?_)
            ·
              refine RC.seq ?_
              refine RC.region rfl ?_
              refine RL.ev (.assign rfl) rfl rfl ?_
              refine RL.nil (RC.back ?_)
              refine RC.done (rs := [.tmp 2]) (vs := [_]) rfl rfl ⟨rfl, trivial⟩ ?_
              -- end 6
              refine ⟨?_, S⟩
              show Value.bool _ = _
              congr 1
              symm
              rw [Bool.eq_false_iff]
              intro h
              have := (well_iff x).1 h
              omega
            ·
              refine RC.skip (RC.back ?_)
              refine RC.seq ?_
              refine RC.region rfl ?_
              refine RL.ev (.field0 fo73_5 rfl) rfl rfl ?_
              refine RL.ev (.sliceArr ar71 rfl) rfl rfl ?_
              refine RL.call rfl ok69 (c_containsRef (fun r => !rightR r) x.kids _ 9 70 ok70 [] [] w_1 (Has.slPart (pre := [i6 x.kind, i6 x.gen, i6 x.n, i6 x.v, i6 x.s]) (post := [i6 x.pre, i6 x.suf]) hb_1 rfl) (Nat.le_of_ble_eq_true rfl) (fun r hr w' _ => c_well1 r (hx.kids r hr) w')) rfl rfl ?_
              rintro _ w7 ⟨rfl, s8⟩
              have S := S.trans s8
              have hb_1 := hb_1.sub s8
              refine RL.ev (.not rfl) rfl rfl ?_
              refine RL.ev (.assign rfl) rfl rfl ?_
              refine RL.nil (RC.back ?_)
              refine RC.done (rs := [.tmp 2]) (vs := [_]) rfl rfl ⟨rfl, trivial⟩ ?_
              -- end 7
              refine ⟨?_, S⟩
              show Value.bool _ = _
              congr 1
              rw [any_not]
              unfold well
              rw [decide_eq_true (by omega)]
              rfl

theorem gen3_not (r : Int) (hr : U64 r) (h : ¬ r = 0) : gen3 r < 0 ↔ rightR r = false := by
  rw [Bool.eq_false_iff, Ne, rightR_iff]
  unfold U64 at hr
  unfold gen3
  split <;> omega
theorem rightR_0 : rightR 0 = true := rfl
theorem c_r4Well (x : Node) (hx : x.ok) (w : World) : FC Try.prog 56 [x.val] w (Val (.bool (well x)) w) := by
  have hx0 := hx
  have hk : ∀ (i : Nat) k, x.kids[i]? = some k → U64 k := fun i k h => hx.kids k (List.mem_of_getElem? h)
  refine FC.intro Try.func56 rfl Try.ntmps56 rfl ?_
  have S := Sub.refl w
  refine RC.seq ?_
  refine RC.region rfl ?_
  refine RL.box rfl rfl rfl (fun b_1 w_1 e_1 z_1 hb_1 s_1 => ?_)
  have ge_1 := S.le e_1
  have S := S.trans s_1
  refine RL.ev (.assign rfl) rfl rfl ?_
  refine RL.nil (RC.back ?_)
  refine RC.seq ?_
  refine RC.seq ?_
  refine RC.region rfl ?_
  refine RL.ev (.field0 fo73_5 rfl) rfl rfl ?_
  refine RL.ev (.as (v' := .agg (x.kids.map u6).toArray) (.loadR (x.kids.map u6) sh71 rfl (Has.row_at (pre := [i6 x.kind, i6 x.gen, i6 x.n, i6 x.v, i6 x.s]) (mid := x.kids.map u6) (post := [i6 x.pre, i6 x.suf]) hb_1 rfl) rfl) (by rfl)) rfl rfl ?_
  refine RL.ev (.move rfl) rfl rfl ?_
  refine RL.nil (RC.back ?_)
  refine RC.block ?_
  refine RC.loop (α := Nat) (fun i => [(1, .pointer (some ⟨b_1, 0, none⟩)), (6, .agg (x.kids.map u6).toArray), (7, .int .i64 (i : Int))]) (fun i w1 => i ≤ 9 ∧ (∀ j k, x.kids[j]? = some k → j < i → rightR k = true) ∧ Has w1 b_1 x.cells 73 ∧ Sub w w1) (fun i => 9 - i) 0 (keep_of (by repeat (first | exact trivial | refine And.intro rfl ?_))) (⟨Nat.zero_le _, fun j x _ h => absurd h (by omega), hb_1, S⟩) (fun i w1 hJ => ?_)
  obtain ⟨hi, hn, hb_1, S⟩ := hJ
  refine RC.seq ?_
  refine RC.region rfl ?_
  refine RL.ev (.bin rfl rfl rfl) rfl rfl ?_
  refine RL.nil (RC.back ?_)
  refine RC.seq ?_
  refine RC.cond_dec rfl (fun h2 => ?_) (fun h2 => ?_)
  ·
    obtain ⟨k, hy⟩ := getSome (l := x.kids) (i := i) (by show i < 9; omega)
    refine RC.skip (RC.back ?_)
    refine RC.seq ?_
    refine RC.block ?_
    refine RC.seq ?_
    refine RC.region rfl ?_
    refine RL.ev (.index1 ar71 sh28 rfl rfl (by omega) ((by simp [hy] : (x.kids.map u6).toArray[(i : Int).toNat * 1]? = some (u6 k)))) rfl rfl ?_
    refine RL.ev (.assign rfl) rfl rfl ?_
    refine RL.nil (RC.back ?_)
    refine RC.seq ?_
    refine RC.region rfl ?_
    refine RL.ev (.move rfl) rfl rfl ?_
    refine RL.ev (.bin rfl rfl rfl) rfl rfl ?_
    refine RL.ev (.move rfl) rfl rfl ?_
    refine RL.split 12 rfl (fun h3 => ?_) (fun h3 => ?_)
    ·
      have hne := h3
      refine RL.ev (.move rfl) rfl rfl ?_
      refine RL.call rfl ok67 (c_r3Gen k (hk i k hy) w1) rfl rfl ?_
      rintro _ w4 ⟨rfl, s5⟩
      have S := S.trans s5
      have hb_1 := hb_1.sub s5
      refine RL.ev (.bin rfl rfl rfl) rfl rfl ?_
      refine RL.ev (.pick_t rfl rfl) rfl rfl ?_
      refine RL.nil (RC.back ?_)
      refine RC.cond_dec rfl (fun h6 => ?_) (fun h6 => ?_)
      ·
        have hf := (gen3_not k (hk i k hy) hne).1 h6
        refine RC.seq ?_
        refine RC.region rfl ?_
        refine RL.ev (.assign rfl) rfl rfl ?_
        refine RL.nil (RC.back ?_)
        refine RC.done (rs := [.tmp 2]) (vs := [_]) rfl rfl ⟨rfl, trivial⟩ ?_
        -- end 1
        refine ⟨congrArg Value.bool ?_, S⟩
        symm
        rw [Bool.eq_false_iff]
        intro h
        have h2 := List.all_eq_true.1 ((well_iff x).1 h).2 k (List.mem_of_getElem? hy)
        rw [hf] at h2
        cases h2
      ·
        have hv : rightR k = true := Bool.of_not_eq_false (mt (gen3_not k (hk i k hy) hne).2 h6)
        refine RC.skip (RC.back ?_)
        refine RC.region rfl ?_
        refine RL.ev (.as (.bin rfl rfl rfl) (wi64 (y := ((i + 1 : Nat) : Int)) (by omega) (by omega))) rfl rfl ?_
        refine RL.ev (.move rfl) rfl rfl ?_
        exact RL.nil (fun a ka => ⟨i + 1, ⟨by omega, fun j y hj h => (Nat.lt_succ_iff_lt_or_eq.1 h).elim (hn j y hj) (fun e => by subst e; rw [hy] at hj; cases hj; exact hv), hb_1, S⟩, by omega, ka.keep (keep_of (by repeat (first | exact trivial | refine And.intro rfl ?_)))⟩)
    ·
      have hv : rightR k = true := (by have := Decidable.not_not.1 h3; subst this; rfl)
      refine RL.off rfl rfl ?_
      refine RL.off rfl rfl ?_
      refine RL.off rfl rfl ?_
      refine RL.ev (.pick_f rfl rfl) rfl rfl ?_
      refine RL.nil (RC.back ?_)
      refine RC.cond_f rfl ?_
      refine RC.skip (RC.back ?_)
      refine RC.region rfl ?_
      refine RL.ev (.as (.bin rfl rfl rfl) (wi64 (y := ((i + 1 : Nat) : Int)) (by omega) (by omega))) rfl rfl ?_
      refine RL.ev (.move rfl) rfl rfl ?_
      exact RL.nil (fun a ka => ⟨i + 1, ⟨by omega, fun j y hj h => (Nat.lt_succ_iff_lt_or_eq.1 h).elim (hn j y hj) (fun e => by subst e; rw [hy] at hj; cases hj; exact hv), hb_1, S⟩, by omega, ka.keep (keep_of (by repeat (first | exact trivial | refine And.intro rfl ?_)))⟩)
  ·
    have hall : x.kids.all rightR = true := List.all_eq_true.2 (fun k hk => by obtain ⟨j, hj⟩ := List.getElem?_of_mem hk; exact hn j k hj (by have := lt_of_get hj; have : x.kids.length = 9 := rfl; omega))
    refine RC.exit rfl (RC.back ?_)
    refine RC.seq ?_
    refine RC.region rfl ?_
    refine RL.ev (.field0 fo73_1 rfl) rfl rfl ?_
    refine RL.ev (.load1 sh3 rfl (hb_1.cell rfl)) rfl rfl ?_
    refine RL.ev (.bin rfl rfl rfl) rfl rfl ?_
    refine RL.ev (.move rfl) rfl rfl ?_
    refine RL.split 21 rfl (fun h7 => ?_) (fun h7 => ?_)
    ·
      refine RL.ev (.field0 fo73_1 rfl) rfl rfl ?_
      refine RL.ev (.load1 sh3 rfl (hb_1.cell rfl)) rfl rfl ?_
      refine RL.ev (.bin rfl rfl rfl) rfl rfl ?_
      refine RL.ev (.pick_t rfl rfl) rfl rfl ?_
      refine RL.ev (.move rfl) rfl rfl ?_
      refine RL.split 26 rfl (fun h8 => ?_) (fun h8 => ?_)
      ·
        refine RL.ev (.field0 fo73_6 rfl) rfl rfl ?_
        refine RL.ev (.load1 sh3 rfl (hb_1.cell rfl)) rfl rfl ?_
        refine RL.ev (.bin rfl rfl rfl) rfl rfl ?_
        refine RL.ev (.pick_t rfl rfl) rfl rfl ?_
        refine RL.ev (.move rfl) rfl rfl ?_
        refine RL.split 31 rfl (fun h9 => ?_) (fun h9 => ?_)
        ·
          refine RL.ev (.field0 fo73_6 rfl) rfl rfl ?_
          refine RL.ev (.load1 sh3 rfl (hb_1.cell rfl)) rfl rfl ?_
          refine RL.ev (.bin rfl rfl rfl) rfl rfl ?_
          refine RL.ev (.pick_t rfl rfl) rfl rfl ?_
          refine RL.ev (.move rfl) rfl rfl ?_
          refine RL.split 36 rfl (fun h10 => ?_) (fun h10 => ?_)
          ·
            refine RL.ev (.field0 fo73_7 rfl) rfl rfl ?_
            refine RL.ev (.load1 sh3 rfl (hb_1.cell rfl)) rfl rfl ?_
            refine RL.ev (.bin rfl rfl rfl) rfl rfl ?_
            refine RL.ev (.pick_t rfl rfl) rfl rfl ?_
            refine RL.ev (.move rfl) rfl rfl ?_
            refine RL.split 41 rfl (fun h11 => ?_) (fun h11 => ?_)
            ·
              refine RL.ev (.field0 fo73_7 rfl) rfl rfl ?_
              refine RL.ev (.load1 sh3 rfl (hb_1.cell rfl)) rfl rfl ?_
              refine RL.ev (.bin rfl rfl rfl) rfl rfl ?_
              refine RL.ev (.pick_t rfl rfl) rfl rfl ?_
              refine RL.ev (.assign rfl) rfl rfl ?_
              refine RL.nil (RC.back ?_)
              refine RC.done (rs := [.tmp 2]) (vs := [_]) rfl rfl ⟨rfl, trivial⟩ ?_
              -- end 2
              refine ⟨congrArg Value.bool ?_, S⟩
              rw [well, hall, Bool.and_true]
              first | exact (decide_eq_false (by omega)).symm | exact decide_eq_decide.2 (by omega)
            ·
              refine RL.off rfl rfl ?_
              refine RL.off rfl rfl ?_
              refine RL.off rfl rfl ?_
              refine RL.ev (.pick_f rfl rfl) rfl rfl ?_
              refine RL.ev (.assign rfl) rfl rfl ?_
              refine RL.nil (RC.back ?_)
              refine RC.done (rs := [.tmp 2]) (vs := [_]) rfl rfl ⟨rfl, trivial⟩ ?_
              -- end 3
              refine ⟨congrArg Value.bool ?_, S⟩
              rw [well, hall, Bool.and_true]
              first | exact (decide_eq_false (by omega)).symm | exact decide_eq_decide.2 (by omega)
          ·
            refine RL.off rfl rfl ?_
            refine RL.off rfl rfl ?_
            refine RL.off rfl rfl ?_
            refine RL.ev (.pick_f rfl rfl) rfl rfl ?_
            refine RL.ev (.move rfl) rfl rfl ?_
            refine RL.off rfl rfl ?_
            refine RL.off rfl rfl ?_
            refine RL.off rfl rfl ?_
            refine RL.ev (.pick_f rfl rfl) rfl rfl ?_
            refine RL.ev (.assign rfl) rfl rfl ?_
            refine RL.nil (RC.back ?_)
            refine RC.done (rs := [.tmp 2]) (vs := [_]) rfl rfl ⟨rfl, trivial⟩ ?_
            -- end 4
            refine ⟨congrArg Value.bool ?_, S⟩
            rw [well, hall, Bool.and_true]
            first | exact (decide_eq_false (by omega)).symm | exact decide_eq_decide.2 (by omega)
        ·
          refine RL.off rfl rfl ?_
          refine RL.off rfl rfl ?_
          refine RL.off rfl rfl ?_
          refine RL.ev (.pick_f rfl rfl) rfl rfl ?_
          refine RL.ev (.move rfl) rfl rfl ?_
          refine RL.off rfl rfl ?_
          refine RL.off rfl rfl ?_
          refine RL.off rfl rfl ?_
          refine RL.ev (.pick_f rfl rfl) rfl rfl ?_
          refine RL.ev (.move rfl) rfl rfl ?_
          refine RL.off rfl rfl ?_
          refine RL.off rfl rfl ?_
          refine RL.off rfl rfl ?_
          refine RL.ev (.pick_f rfl rfl) rfl rfl ?_
          refine RL.ev (.assign rfl) rfl rfl ?_
          refine RL.nil (RC.back ?_)
          refine RC.done (rs := [.tmp 2]) (vs := [_]) rfl rfl ⟨rfl, trivial⟩ ?_
          -- end 5
          refine ⟨congrArg Value.bool ?_, S⟩
          rw [well, hall, Bool.and_true]
          first | exact (decide_eq_false (by omega)).symm | exact decide_eq_decide.2 (by omega)
      ·
        refine RL.off rfl rfl ?_
        refine RL.off rfl rfl ?_
        refine RL.off rfl rfl ?_
        refine RL.ev (.pick_f rfl rfl) rfl rfl ?_
        refine RL.ev (.move rfl) rfl rfl ?_
        refine RL.off rfl rfl ?_
        refine RL.off rfl rfl ?_
        refine RL.off rfl rfl ?_
        refine RL.ev (.pick_f rfl rfl) rfl rfl ?_
        refine RL.ev (.move rfl) rfl rfl ?_
        refine RL.off rfl rfl ?_
        refine RL.off rfl rfl ?_
        refine RL.off rfl rfl ?_
        refine RL.ev (.pick_f rfl rfl) rfl rfl ?_
        refine RL.ev (.move rfl) rfl rfl ?_
        refine RL.off rfl rfl ?_
        refine RL.off rfl rfl ?_
        refine RL.off rfl rfl ?_
        refine RL.ev (.pick_f rfl rfl) rfl rfl ?_
        refine RL.ev (.assign rfl) rfl rfl ?_
        refine RL.nil (RC.back ?_)
        refine RC.done (rs := [.tmp 2]) (vs := [_]) rfl rfl ⟨rfl, trivial⟩ ?_
        -- end 6
        refine ⟨congrArg Value.bool ?_, S⟩
        rw [well, hall, Bool.and_true]
        first | exact (decide_eq_false (by omega)).symm | exact decide_eq_decide.2 (by omega)
    ·
      refine RL.off rfl rfl ?_
      refine RL.off rfl rfl ?_
      refine RL.off rfl rfl ?_
      refine RL.ev (.pick_f rfl rfl) rfl rfl ?_
      refine RL.ev (.move rfl) rfl rfl ?_
      refine RL.off rfl rfl ?_
      refine RL.off rfl rfl ?_
      refine RL.off rfl rfl ?_
      refine RL.ev (.pick_f rfl rfl) rfl rfl ?_
      refine RL.ev (.move rfl) rfl rfl ?_
      refine RL.off rfl rfl ?_
      refine RL.off rfl rfl ?_
      refine RL.off rfl rfl ?_
      refine RL.ev (.pick_f rfl rfl) rfl rfl ?_
      refine RL.ev (.move rfl) rfl rfl ?_
      refine RL.off rfl rfl ?_
      refine RL.off rfl rfl ?_
      refine RL.off rfl rfl ?_
      refine RL.ev (.pick_f rfl rfl) rfl rfl ?_
      refine RL.ev (.move rfl) rfl rfl ?_
      refine RL.off rfl rfl ?_
      refine RL.off rfl rfl ?_
      refine RL.off rfl rfl ?_
      refine RL.ev (.pick_f rfl rfl) rfl rfl ?_
      refine RL.ev (.assign rfl) rfl rfl ?_
      refine RL.nil (RC.back ?_)
      refine RC.done (rs := [.tmp 2]) (vs := [_]) rfl rfl ⟨rfl, trivial⟩ ?_
      -- end 7
      refine ⟨congrArg Value.bool ?_, S⟩
      rw [well, hall, Bool.and_true]
      first | exact (decide_eq_false (by omega)).symm | exact decide_eq_decide.2 (by omega)

noncomputable def aokB (A : Ar) : Bool := @decide (AOk A) (Classical.propDecidable _)
theorem aokB_iff (A : Ar) : aokB A = true ↔ AOk A := by unfold aokB; exact @decide_eq_true_iff _ (Classical.propDecidable _)

theorem c_r4has (l : List Int) (x : Int) (a : Option Addr) (c : Nat) (w : World) (hs : Sl w a 1 (l.map fun x => [i6 x])) (hlen : l.length ≤ 1000000000) :
    FC Try.prog 55 [.slice a l.length c, .int .i64 x] w (Val (.int .i64 (l.count x : Int)) w) := by
  refine FC.intro Try.func55 rfl Try.ntmps55 rfl ?_
  have S := Sub.refl w
  refine RC.seq ?_
  refine RC.region rfl ?_
  refine RL.ev (.assign rfl) rfl rfl ?_
  refine RL.nil (RC.back ?_)
  refine RC.seq ?_
  refine RC.region rfl ?_
  refine RL.ev (.assign rfl) rfl rfl ?_
  refine RL.nil (RC.back ?_)
  refine RC.seq ?_
  refine RC.seq ?_
  refine RC.region rfl ?_
  refine RL.ev (.move rfl) rfl rfl ?_
  refine RL.ev (.len sl24 rfl) rfl rfl ?_
  refine RL.ev (.move rfl) rfl rfl ?_
  refine RL.nil (RC.back ?_)
  refine RC.block ?_
  refine RC.loop (α := Nat) (fun i => [(1, .int .i64 x), (8, .slice a l.length c), (9, .int .i64 (l.length : Int)), (5, .int .i64 ((l.take i).count x : Int)), (10, .int .i64 (i : Int))]) (fun i w1 => i ≤ l.length ∧ Sub w w1) (fun i => l.length - i) 0 (keep_of (by repeat (first | exact trivial | refine And.intro rfl ?_))) (⟨Nat.zero_le _, S⟩) (fun i w1 hJ => ?_)
  obtain ⟨hi, S⟩ := hJ
  refine RC.seq ?_
  refine RC.region rfl ?_
  refine RL.ev (.bin rfl rfl rfl) rfl rfl ?_
  refine RL.nil (RC.back ?_)
  refine RC.seq ?_
  refine RC.cond_dec rfl (fun h2 => ?_) (fun h2 => ?_)
  ·
    obtain ⟨y, hy⟩ := getSome (l := l) (i := i) (by omega)
    have hcnt : (l.take (i + 1)).count x = (l.take i).count x + if y = x then 1 else 0 := (by rw [List.take_add_one, hy, Option.toList_some, List.count_append, List.count_singleton]; simp)
    have hle := List.count_le_length (a := x) (l := l.take i)
    have hle2 : (l.take i).length ≤ l.length := (by rw [List.length_take]; omega)
    refine RC.skip (RC.back ?_)
    refine RC.seq ?_
    refine RC.block ?_
    refine RC.seq ?_
    refine RC.region rfl ?_
    refine RL.ev (.indexS sl24 rfl rfl (by omega) (hs.is (i := 0) (by simp only [List.length_map]; omega))) rfl rfl ?_
    refine RL.ev (.load1 sh3 rfl ((hs.sub S).one (enc := i6) (i := i) hy)) rfl rfl ?_
    refine RL.ev (.assign rfl) rfl rfl ?_
    refine RL.nil (RC.back ?_)
    refine RC.seq ?_
    refine RC.region rfl ?_
    refine RL.ev (.move rfl) rfl rfl ?_
    refine RL.ev (.move rfl) rfl rfl ?_
    refine RL.ev (.bin rfl rfl rfl) rfl rfl ?_
    refine RL.nil (RC.back ?_)
    refine RC.cond_dec rfl (fun h3 => ?_) (fun h3 => ?_)
    ·
      rw [if_pos h3] at hcnt
      refine RC.region rfl ?_
      refine RL.ev (.move rfl) rfl rfl ?_
      refine RL.ev (.as (.bin rfl rfl rfl) (wi64 (y := ((l.take (i + 1)).count x : Int)) (by omega) (by omega))) rfl rfl ?_
      refine RL.ev (.assign rfl) rfl rfl ?_
      refine RL.nil (RC.back ?_)
      refine RC.region rfl ?_
      refine RL.ev (.as (.bin rfl rfl rfl) (wi64 (y := ((i + 1 : Nat) : Int)) (by omega) (by omega))) rfl rfl ?_
      refine RL.ev (.move rfl) rfl rfl ?_
      exact RL.nil (fun a ka => ⟨i + 1, ⟨by omega, S⟩, by omega, ka.keep (keep_of (by repeat (first | exact trivial | refine And.intro rfl ?_)))⟩)
    ·
      have hc0 : (l.take (i + 1)).count x = (l.take i).count x := (by rw [hcnt, if_neg h3]; rfl)
      rw [← hc0]
      refine RC.skip (RC.back ?_)
      refine RC.region rfl ?_
      refine RL.ev (.as (.bin rfl rfl rfl) (wi64 (y := ((i + 1 : Nat) : Int)) (by omega) (by omega))) rfl rfl ?_
      refine RL.ev (.move rfl) rfl rfl ?_
      exact RL.nil (fun a ka => ⟨i + 1, ⟨by omega, S⟩, by omega, ka.keep (keep_of (by repeat (first | exact trivial | refine And.intro rfl ?_)))⟩)
  ·
    obtain rfl : i = l.length := by omega
    refine RC.exit rfl (RC.back ?_)
    refine RC.seq ?_
    refine RC.region rfl ?_
    refine RL.ev (.move rfl) rfl rfl ?_
    refine RL.ev (.assign rfl) rfl rfl ?_
    refine RL.nil (RC.back ?_)
    refine RC.done (rs := [.tmp 4]) (vs := [_]) rfl rfl ⟨rfl, trivial⟩ ?_
    -- end 1
    refine ⟨?_, S⟩
    rw [List.take_length]
    rfl

/-- which places were told, of the first i -/
def flags (A : Ar) (i : Nat) : List Bool := (List.range A.nodes.length).map fun (p : Nat) => decide ((p : Int) ∈ A.free.take i)
theorem flags_len (A : Ar) (i : Nat) : (flags A i).length = A.nodes.length := by simp [flags]
theorem flags_get (A : Ar) (i : Nat) (x : Int) (h : 0 ≤ x ∧ x < A.nodes.length) : (flags A i)[x.toNat]? = some (decide (x ∈ A.free.take i)) := by
  have h1 : x.toNat < A.nodes.length := by omega
  simp only [flags, List.getElem?_map, List.getElem?_range h1, Option.map_some]
  rw [Int.toNat_of_nonneg h.1]
theorem mem_take_succ {l : List Int} {i : Nat} {x y : Int} (hy : l[i]? = some y) : x ∈ l.take (i + 1) ↔ x ∈ l.take i ∨ x = y := by
  rw [List.take_add_one, hy]; simp
theorem flags_set (A : Ar) (i : Nat) (x : Int) (hx : A.free[i]? = some x) (h : 0 ≤ x ∧ x < A.nodes.length) : (flags A i).set x.toNat true = flags A (i + 1) := by
  apply List.ext_getElem?
  intro k
  rw [List.getElem?_set, flags_len]
  by_cases hk : k < A.nodes.length
  · have h2 := flags_get A (i + 1) k (by omega)
    have h3 := flags_get A i k (by omega)
    rw [Int.toNat_natCast] at h2 h3
    rw [h2, h3]
    by_cases e : x.toNat = k
    · rw [if_pos e, if_pos (by omega)]
      congr 1; symm
      rw [decide_eq_true_iff, mem_take_succ hx]
      exact .inr (by omega)
    · rw [if_neg e]
      congr 1
      rw [decide_eq_decide, mem_take_succ hx]
      exact ⟨.inl, fun h => h.resolve_right (by omega)⟩
  · rw [List.getElem?_eq_none (l := flags A (i + 1)) (by rw [flags_len]; omega), List.getElem?_eq_none (l := flags A i) (by rw [flags_len]; omega)]
    by_cases e : x.toNat = k
    · rw [if_pos e, if_neg (by omega)]
    · rw [if_neg e]
theorem flags_0 (A : Ar) : flags A 0 = List.replicate A.nodes.length false := by
  apply List.ext_getElem?
  intro k
  simp [flags, List.getElem?_replicate, List.getElem?_range]
  by_cases h : k < A.nodes.length
  · simp [h]
  · simp [h]
theorem flags_all (A : Ar) (i : Nat) (h : i = A.free.length) (k : Nat) (hk : k < A.nodes.length) : (flags A i)[k]? = some (decide ((k : Int) ∈ A.free)) := by
  have := flags_get A i k (by omega)
  rw [Int.toNat_natCast, h, List.take_length] at this
  rw [h]; exact this
theorem nodup_take_succ {l : List Int} {i : Nat} {y : Int} (hy : l[i]? = some y) : (l.take (i + 1)).Nodup ↔ (l.take i).Nodup ∧ y ∉ l.take i := by
  rw [List.take_add_one, hy, Option.toList_some, List.nodup_append]
  constructor
  · rintro ⟨h1, _, h3⟩; exact ⟨h1, fun h => h3 _ h _ (List.mem_singleton.2 rfl) rfl⟩
  · rintro ⟨h1, h2⟩
    exact ⟨h1, by simp, fun a ha b hb e => by rw [List.mem_singleton] at hb; subst hb; subst e; exact h2 ha⟩
/-- what the first loop finds out of the first i -/
structure Pre1 (A : Ar) (i : Nat) : Prop where
  rng : ∀ x ∈ A.free.take i, 0 ≤ x ∧ x < A.nodes.length
  nd : (A.free.take i).Nodup
theorem Pre1.succ {A : Ar} {i : Nat} {x : Int} (h : Pre1 A i) (hx : A.free[i]? = some x) (hr : 0 ≤ x ∧ x < A.nodes.length) (hn : x ∉ A.free.take i) : Pre1 A (i + 1) :=
  ⟨fun y hy => ((mem_take_succ hx).1 hy).elim (h.rng y) (fun e => e ▸ hr), (nodup_take_succ hx).2 ⟨h.nd, hn⟩⟩
/-- what the second loop finds out of the first i nodes -/
def Pre2 (A : Ar) (i : Nat) : Prop := ∀ (j : Nat) x, A.nodes[j]? = some x → j < i → well x = true ∧ (x.kind = 0 ↔ (j : Int) ∈ A.free) ∧ ((j : Int) ∈ A.free → x = bareN x.gen)
theorem Pre2.succ {A : Ar} {i : Nat} {x : Node} (h : Pre2 A i) (hx : A.nodes[i]? = some x) (hr : well x = true ∧ (x.kind = 0 ↔ (i : Int) ∈ A.free) ∧ ((i : Int) ∈ A.free → x = bareN x.gen)) : Pre2 A (i + 1) :=
  fun j y hy hj => (Nat.lt_succ_iff_lt_or_eq.1 hj).elim (h j y hy) (fun e => by subst e; rw [hx] at hy; cases hy; exact hr)
theorem aok_mk {A : Ar} (h1 : 1 ≤ A.nodes.length ∧ A.nodes.length ≤ 512 ∧ A.free.length ≤ A.nodes.length) (p1 : Pre1 A A.free.length) (p2 : Pre2 A A.nodes.length) : AOk A :=
  ⟨h1.1, h1.2.1, h1.2.2, by have := p1.rng; rwa [List.take_length] at this, by have := p1.nd; rwa [List.take_length] at this,
   fun x hx => by obtain ⟨j, hj⟩ := List.getElem?_of_mem hx; exact (p2 j x hj (lt_of_get hj)).1,
   fun i x hx => (p2 i x hx (lt_of_get hx)).2.1, fun i x hx => (p2 i x hx (lt_of_get hx)).2.2⟩
theorem aok_at {A : Ar} (h : AOk A) {i : Nat} {x : Node} (hx : A.nodes[i]? = some x) : well x = true ∧ (x.kind = 0 ↔ (i : Int) ∈ A.free) ∧ ((i : Int) ∈ A.free → x = bareN x.gen) :=
  ⟨h.well x (List.mem_of_getElem? hx), h.kind i x hx, h.bare i x hx⟩
theorem aok_no_dup {A : Ar} (h : AOk A) {i : Nat} {x : Int} (hx : A.free[i]? = some x) : x ∉ A.free.take i := by
  have : (A.free.take (i + 1)).Nodup := h.nodup.sublist (List.take_sublist _ _)
  exact ((nodup_take_succ hx).1 this).2
theorem aokB_no {A : Ar} (h : ¬ AOk A) : aokB A = false := by rw [Bool.eq_false_iff]; exact fun e => h ((aokB_iff A).1 e)
theorem aokB_yes {A : Ar} (h : AOk A) : aokB A = true := (aokB_iff A).2 h
theorem eqL_cells (x y : Node) : eqL x.cells y.cells = decide (x = y) := by
  cases x; cases y
  simp only [Node.cells, eqL, eq1, Node.mk.injEq, Bool.decide_and, Bool.and_true]
  rfl
theorem fits_cells (x : Node) : fitsK [some .i64, some .i64, some .i64, some .i64, some .i64, some .u64, some .u64, some .u64, some .u64, some .u64, some .u64, some .u64, some .u64, some .u64, some .i64, some .i64] x.cells = true := rfl

theorem c_aRight (A : Ar) (na fa : Option Addr) (nc fc : Nat) (w : World) (hA : ArR w na fa A) :
    FC Try.prog 51 [arV na fa nc fc A] w (Val (.bool (aokB A)) w) := by
  have hN := hA.nodes
  have hFr := hA.free
  refine FC.intro Try.func51 rfl Try.ntmps51 rfl ?_
  have S := Sub.refl w
  refine RC.seq ?_
  refine RC.region rfl ?_
  refine RL.box rfl rfl rfl (fun b_1 w_1 e_1 z_1 hb_1 s_1 => ?_)
  have ge_1 := S.le e_1
  have S := S.trans s_1
  have hb_1 : Has w_1 b_1 ([.slice na A.nodes.length nc, .slice fa A.free.length fc]) _ := hb_1
  refine RL.ev (.assign rfl) rfl rfl ?_
  refine RL.nil (RC.back ?_)
  refine RC.seq ?_
  refine RC.seq ?_
  refine RC.region rfl ?_
  refine RL.ev (.field0 fo26_0 rfl) rfl rfl ?_
  refine RL.ev (.load1 sh23 rfl (hb_1.cell rfl)) rfl rfl ?_
  refine RL.ev (.len sl23 rfl) rfl rfl ?_
  refine RL.ev (.bin rfl rfl rfl) rfl rfl ?_
  refine RL.ev (.move rfl) rfl rfl ?_
  refine RL.split 12 rfl (fun h1 => ?_) (fun h1 => ?_)
  ·
    refine RL.off rfl rfl ?_
    refine RL.off rfl rfl ?_
    refine RL.off rfl rfl ?_
    refine RL.off rfl rfl ?_
    refine RL.ev (.pick_t rfl rfl) rfl rfl ?_
    refine RL.ev (.move rfl) rfl rfl ?_
    refine RL.off rfl rfl ?_
    refine RL.off rfl rfl ?_
    refine RL.off rfl rfl ?_
    refine RL.off rfl rfl ?_
    refine RL.off rfl rfl ?_
    refine RL.off rfl rfl ?_
    refine RL.off rfl rfl ?_
    refine RL.ev (.pick_t rfl rfl) rfl rfl ?_
    refine RL.nil (RC.back ?_)
    refine RC.cond_t rfl ?_
    refine RC.seq ?_
    refine RC.region rfl ?_
    refine RL.ev (.assign rfl) rfl rfl ?_
    refine RL.nil (RC.back ?_)
    refine RC.done (rs := [.tmp 2]) (vs := [_]) rfl rfl ⟨rfl, trivial⟩ ?_
    -- end 1
    exact ⟨congrArg Value.bool (aokB_no (fun h => by have := h.one; have := h.most; have := h.fit; omega)).symm, S⟩
  ·
    refine RL.ev (.field0 fo26_0 rfl) rfl rfl ?_
    refine RL.ev (.load1 sh23 rfl (hb_1.cell rfl)) rfl rfl ?_
    refine RL.ev (.len sl23 rfl) rfl rfl ?_
    refine RL.ev (.bin rfl rfl rfl) rfl rfl ?_
    refine RL.ev (.pick_f rfl rfl) rfl rfl ?_
    refine RL.ev (.move rfl) rfl rfl ?_
    refine RL.split 18 rfl (fun h2 => ?_) (fun h2 => ?_)
    ·
      refine RL.off rfl rfl ?_
      refine RL.off rfl rfl ?_
      refine RL.off rfl rfl ?_
      refine RL.off rfl rfl ?_
      refine RL.off rfl rfl ?_
      refine RL.off rfl rfl ?_
      refine RL.off rfl rfl ?_
      refine RL.ev (.pick_t rfl rfl) rfl rfl ?_
      refine RL.nil (RC.back ?_)
      refine RC.cond_t rfl ?_
      refine RC.seq ?_
      refine RC.region rfl ?_
      refine RL.ev (.assign rfl) rfl rfl ?_
      refine RL.nil (RC.back ?_)
      refine RC.done (rs := [.tmp 2]) (vs := [_]) rfl rfl ⟨rfl, trivial⟩ ?_
      -- end 2
      exact ⟨congrArg Value.bool (aokB_no (fun h => by have := h.one; have := h.most; have := h.fit; omega)).symm, S⟩
    ·
      refine RL.ev (.field0 fo26_1 rfl) rfl rfl ?_
      refine RL.ev (.load1 sh24 rfl (hb_1.cell rfl)) rfl rfl ?_
      refine RL.ev (.len sl24 rfl) rfl rfl ?_
      refine RL.ev (.field0 fo26_0 rfl) rfl rfl ?_
      refine RL.ev (.load1 sh23 rfl (hb_1.cell rfl)) rfl rfl ?_
      refine RL.ev (.len sl23 rfl) rfl rfl ?_
      refine RL.ev (.bin rfl rfl rfl) rfl rfl ?_
      refine RL.ev (.pick_f rfl rfl) rfl rfl ?_
      refine RL.nil (RC.back ?_)
      refine RC.cond_dec rfl (fun h3 => ?_) (fun h3 => ?_)
      ·
        refine RC.seq ?_
        refine RC.region rfl ?_
        refine RL.ev (.assign rfl) rfl rfl ?_
        refine RL.nil (RC.back ?_)
        refine RC.done (rs := [.tmp 2]) (vs := [_]) rfl rfl ⟨rfl, trivial⟩ ?_
        -- end 3
        exact ⟨congrArg Value.bool (aokB_no (fun h => by have := h.one; have := h.most; have := h.fit; omega)).symm, S⟩
      ·
        refine RC.skip (RC.back ?_)
        refine RC.seq ?_
        refine RC.region rfl ?_
        refine RL.ev (.field0 fo26_0 rfl) rfl rfl ?_
        refine RL.ev (.load1 sh23 rfl (hb_1.cell rfl)) rfl rfl ?_
        refine RL.ev (.len sl23 rfl) rfl rfl ?_
        refine RL.makeSlice sl100 ze4 rfl rfl rfl rfl (by omega) rfl rfl (fun b_30 w_30 e_30 z_30 hb_30 s_30 => ?_)
        have ge_30 := S.le e_30
        have n_1__30 := hb_1.ne e_30
        have S := S.trans s_30
        have hb_1 := hb_1.sub s_30
        have hF : Has w_30 b_30 ((flags A 0).map Value.bool) 4 := by have := hb_30; rw [flags_0, List.map_replicate]; rw [Int.toNat_natCast] at this; rw [← rep1]; exact this
        refine RL.ev (.assign rfl) rfl rfl ?_
        refine RL.nil (RC.back ?_)
        refine RC.seq ?_
        refine RC.seq ?_
        refine RC.region rfl ?_
        refine RL.ev (.field0 fo26_1 rfl) rfl rfl ?_
        refine RL.ev (.load1 sh24 rfl (hb_1.cell rfl)) rfl rfl ?_
        refine RL.ev (.len sl24 rfl) rfl rfl ?_
        refine RL.ev (.move rfl) rfl rfl ?_
        refine RL.nil (RC.back ?_)
        refine RC.block ?_
        refine RC.loop (α := Nat) (fun i => [(1, .pointer (some ⟨b_1, 0, none⟩)), (3, .slice (some ⟨b_30, 0, none⟩) A.nodes.length A.nodes.length), (32, .slice fa A.free.length fc), (33, .int .i64 (A.free.length : Int)), (34, .int .i64 (i : Int))]) (fun i w4 => i ≤ A.free.length ∧ Pre1 A i ∧ Has w4 b_1 [.slice na A.nodes.length nc, .slice fa A.free.length fc] 26 ∧ Has w4 b_30 ((flags A i).map Value.bool) 4 ∧ Sub w w4) (fun i => A.free.length - i) 0 (keep_of (by repeat (first | exact trivial | refine And.intro rfl ?_))) (⟨Nat.zero_le _, ⟨fun x hx => by simp at hx, by simp⟩, hb_1, hF, S⟩) (fun i w4 hJ => ?_)
        obtain ⟨hi, hp, hb_1, hF, S⟩ := hJ
        refine RC.seq ?_
        refine RC.region rfl ?_
        refine RL.ev (.bin rfl rfl rfl) rfl rfl ?_
        refine RL.nil (RC.back ?_)
        refine RC.seq ?_
        refine RC.cond_dec rfl (fun h5 => ?_) (fun h5 => ?_)
        ·
          obtain ⟨y, hy⟩ := getSome (l := A.free) (i := i) (by omega)
          refine RC.skip (RC.back ?_)
          refine RC.seq ?_
          refine RC.block ?_
          refine RC.seq ?_
          refine RC.region rfl ?_
          refine RL.ev (.indexS sl24 rfl rfl (by omega) (hFr.is (i := 0) (by simp only [List.length_map]; omega))) rfl rfl ?_
          refine RL.ev (.load1 sh3 rfl ((hFr.sub S).one (enc := i6) (i := i) hy)) rfl rfl ?_
          refine RL.ev (.assign rfl) rfl rfl ?_
          refine RL.nil (RC.back ?_)
          refine RC.seq ?_
          refine RC.seq ?_
          refine RC.region rfl ?_
          refine RL.ev (.move rfl) rfl rfl ?_
          refine RL.ev (.bin rfl rfl rfl) rfl rfl ?_
          refine RL.ev (.move rfl) rfl rfl ?_
          refine RL.split 40 rfl (fun h6 => ?_) (fun h6 => ?_)
          ·
            refine RL.off rfl rfl ?_
            refine RL.off rfl rfl ?_
            refine RL.off rfl rfl ?_
            refine RL.off rfl rfl ?_
            refine RL.ev (.pick_t rfl rfl) rfl rfl ?_
            refine RL.ev (.move rfl) rfl rfl ?_
            refine RL.off rfl rfl ?_
            refine RL.off rfl rfl ?_
            refine RL.off rfl rfl ?_
            refine RL.off rfl rfl ?_
            refine RL.ev (.pick_t rfl rfl) rfl rfl ?_
            refine RL.nil (RC.back ?_)
            refine RC.cond_t rfl ?_
            refine RC.seq ?_
            refine RC.region rfl ?_
            refine RL.ev (.assign rfl) rfl rfl ?_
            refine RL.nil (RC.back ?_)
            refine RC.done (rs := [.tmp 2]) (vs := [_]) rfl rfl ⟨rfl, trivial⟩ ?_
            -- end 4
            exact ⟨congrArg Value.bool (aokB_no (fun h => by have := h.free y (List.mem_of_getElem? hy); omega)).symm, S⟩
          ·
            refine RL.ev (.move rfl) rfl rfl ?_
            refine RL.ev (.move rfl) rfl rfl ?_
            refine RL.ev (.len sl100 rfl) rfl rfl ?_
            refine RL.ev (.bin rfl rfl rfl) rfl rfl ?_
            refine RL.ev (.pick_f rfl rfl) rfl rfl ?_
            refine RL.ev (.move rfl) rfl rfl ?_
            refine RL.split 46 rfl (fun h7 => ?_) (fun h7 => ?_)
            ·
              refine RL.off rfl rfl ?_
              refine RL.off rfl rfl ?_
              refine RL.off rfl rfl ?_
              refine RL.off rfl rfl ?_
              refine RL.ev (.pick_t rfl rfl) rfl rfl ?_
              refine RL.nil (RC.back ?_)
              refine RC.cond_t rfl ?_
              refine RC.seq ?_
              refine RC.region rfl ?_
              refine RL.ev (.assign rfl) rfl rfl ?_
              refine RL.nil (RC.back ?_)
              refine RC.done (rs := [.tmp 2]) (vs := [_]) rfl rfl ⟨rfl, trivial⟩ ?_
              -- end 5
              exact ⟨congrArg Value.bool (aokB_no (fun h => by have := h.free y (List.mem_of_getElem? hy); omega)).symm, S⟩
            ·
              refine RL.ev (.move rfl) rfl rfl ?_
              refine RL.ev (.move rfl) rfl rfl ?_
              refine RL.ev (.indexO sl100 rfl rfl (by omega)) rfl rfl ?_
              refine RL.ev (.load1 sh4 rfl (hF.cell (v := .bool (decide (y ∈ A.free.take i))) (by rw [Nat.mul_one, Nat.zero_add, List.getElem?_map, flags_get A i y (by omega)]; rfl))) rfl rfl ?_
              refine RL.ev (.pick_f rfl rfl) rfl rfl ?_
              refine RL.nil (RC.back ?_)
              refine RC.cond_dec rfl (fun h8 => ?_) (fun h8 => ?_)
              ·
                have hbad := h8
                refine RC.seq ?_
                refine RC.region rfl ?_
                refine RL.ev (.assign rfl) rfl rfl ?_
                refine RL.nil (RC.back ?_)
                refine RC.done (rs := [.tmp 2]) (vs := [_]) rfl rfl ⟨rfl, trivial⟩ ?_
                -- end 6
                exact ⟨congrArg Value.bool (aokB_no (fun h => aok_no_dup h hy hbad)).symm, S⟩
              ·
                have hno := h8
                refine RC.skip (RC.back ?_)
                refine RC.region rfl ?_
                refine RL.ev (.move rfl) rfl rfl ?_
                refine RL.ev (.move rfl) rfl rfl ?_
                refine RL.ev (.indexO sl100 rfl rfl (by omega)) rfl rfl ?_
                refine RL.store sh4 rfl rfl rfl hF (by show 0 + y.toNat * 1 + 1 ≤ _; rw [List.length_map, flags_len]; omega) (by rfl) rfl (fun w9 z9 hF a9 => ?_)
                have S := S.upd a9 ge_30
                have hb_1 := hb_1.upd a9 n_1__30
                have hF := (Has.set1 (enc := Value.bool) (i := y.toNat) (x := true) (by rw [Nat.zero_add, Nat.mul_one] at hF; exact hF))
                rw [flags_set A i y hy (by omega)] at hF
                refine RL.nil (RC.back ?_)
                refine RC.region rfl ?_
                refine RL.ev (.as (.bin rfl rfl rfl) (wi64 (y := ((i + 1 : Nat) : Int)) (by omega) (by omega))) rfl rfl ?_
                refine RL.ev (.move rfl) rfl rfl ?_
                exact RL.nil (fun a ka => ⟨i + 1, ⟨by omega, hp.succ hy (by omega) hno, hb_1, hF, S⟩, by omega, ka.keep (keep_of (by repeat (first | exact trivial | refine And.intro rfl ?_)))⟩)
        ·
          obtain rfl : i = A.free.length := by omega
          refine RC.exit rfl (RC.back ?_)
          refine RC.seq ?_
          refine RC.seq ?_
          refine RC.region rfl ?_
          refine RL.ev (.field0 fo26_0 rfl) rfl rfl ?_
          refine RL.ev (.load1 sh23 rfl (hb_1.cell rfl)) rfl rfl ?_
          refine RL.ev (.len sl23 rfl) rfl rfl ?_
          refine RL.ev (.move rfl) rfl rfl ?_
          refine RL.nil (RC.back ?_)
          refine RC.block ?_
          refine RC.loop (α := Nat) (fun i => [(3, .slice (some ⟨b_30, 0, none⟩) A.nodes.length A.nodes.length), (57, .slice na A.nodes.length nc), (58, .int .i64 (A.nodes.length : Int)), (59, .int .i64 (i : Int))]) (fun i w10 => i ≤ A.nodes.length ∧ Pre2 A i ∧ Has w10 b_30 ((flags A A.free.length).map Value.bool) 4 ∧ Sub w w10) (fun i => A.nodes.length - i) 0 (keep_of (by repeat (first | exact trivial | refine And.intro rfl ?_))) (⟨Nat.zero_le _, fun j x _ h => absurd h (by omega), hF, S⟩) (fun i w10 hJ => ?_)
          obtain ⟨hi, hq, hF, S⟩ := hJ
          refine RC.seq ?_
          refine RC.region rfl ?_
          refine RL.ev (.bin rfl rfl rfl) rfl rfl ?_
          refine RL.nil (RC.back ?_)
          refine RC.seq ?_
          refine RC.cond_dec rfl (fun h11 => ?_) (fun h11 => ?_)
          ·
            obtain ⟨x, hx⟩ := getSome (l := A.nodes) (i := i) (by omega)
            have hfl := flags_all A _ rfl i (by omega)
            refine RC.skip (RC.back ?_)
            refine RC.seq ?_
            refine RC.block ?_
            refine RC.seq ?_
            refine RC.region rfl ?_
            refine RL.ev (.move rfl) rfl rfl ?_
            refine RL.ev (.indexS sl23 rfl rfl (by omega) (hN.is (i := 0) (by simp only [List.length_map]; omega))) rfl rfl ?_
            refine RL.ev (.loadR (x.cells) sh73 rfl ((hN.sub S).rowAt (enc := Node.cells) (i := i) hx) rfl) rfl rfl ?_
            refine RL.alloc ze73 rfl rfl (fun b_7 w_7 e_7 z_7 hb_7 s_7 => ?_)
            have ge_7 := S.le e_7
            have n_30__7 := hF.ne e_7
            have S := S.trans s_7
            have hF := hF.sub s_7
            refine RL.ev (.assign rfl) rfl rfl ?_
            refine RL.store sh73 rfl rfl rfl hb_7 (by exact Nat.le_of_ble_eq_true rfl) (by rfl) rfl (fun w12 z12 hb_7 a12 => ?_)
            have S := S.upd a12 ge_7
            have hF := hF.upd a12 n_30__7
            have hb_7 : Has w12 b_7 (x.cells) _ := hb_7.now (by kernel_rfl)
            refine RL.nil (RC.back ?_)
            refine RC.seq ?_
            refine RC.draw rfl mxo (by kernel_rfl) ?_
            refine RQ.ev (.loadR (x.cells) sh73 rfl hb_7.row rfl) rfl rfl ?_
            refine RQ.call rfl ok61 (fun w' s' => c_well x (hA.nok x (List.mem_of_getElem? hx)) w') rfl rfl ?_
            refine RQ.ev (.not rfl) rfl rfl ?_
            refine RQ.ev (.move rfl) rfl rfl ?_
            refine RQ.splitB 67 rfl (fun h13 => ?_) (fun h13 => ?_)
            ·
              have hbad1 : ¬ well x = true := (by simpa using h13)
              refine RQ.off rfl rfl ?_
              refine RQ.off rfl rfl ?_
              refine RQ.off rfl rfl ?_
              refine RQ.off rfl rfl ?_
              refine RQ.off rfl rfl ?_
              refine RQ.off rfl rfl ?_
              refine RQ.off rfl rfl ?_
              refine RQ.off rfl rfl ?_
              refine RQ.ev (.pick_t rfl rfl) rfl rfl ?_
              refine RQ.ev (.move rfl) rfl rfl ?_
              refine RQ.off rfl rfl ?_
              refine RQ.off rfl rfl ?_
              refine RQ.off rfl rfl ?_
              refine RQ.off rfl rfl ?_
              refine RQ.off rfl rfl ?_
              refine RQ.off rfl rfl ?_
              refine RQ.off rfl rfl ?_
              refine RQ.off rfl rfl ?_
              refine RQ.off rfl rfl ?_
              refine RQ.off rfl rfl ?_
              refine RQ.off rfl rfl ?_
              refine RQ.ev (.pick_t rfl rfl) rfl rfl ?_
              refine RQ.nil (fun w14 s15 => RC.back ?_)
              have S := S.trans s15
              have hF := hF.sub s15
              have hb_7 := hb_7.sub s15
              refine RC.cond_t rfl ?_
              refine RC.seq ?_
              refine RC.region rfl ?_
              refine RL.ev (.assign rfl) rfl rfl ?_
              refine RL.nil (RC.back ?_)
              refine RC.done (rs := [.tmp 2]) (vs := [_]) rfl rfl ⟨rfl, trivial⟩ ?_
              -- end 7
              exact ⟨congrArg Value.bool (aokB_no (fun h => hbad1 (aok_at h hx).1)).symm, S⟩
            ·
              have hw : well x = true := (by simpa using h13)
              refine RQ.ev (.field0 fo73_0 rfl) rfl rfl ?_
              refine RQ.ev (.load1 sh3 rfl (hb_7.cell rfl)) rfl rfl ?_
              refine RQ.ev (.bin rfl rfl rfl) rfl rfl ?_
              refine RQ.ev (.move rfl) rfl rfl ?_
              refine RQ.ev (.move rfl) rfl rfl ?_
              refine RQ.ev (.indexO sl100 rfl rfl (by omega)) rfl rfl ?_
              refine RQ.ev (.load1 sh4 rfl (hF.cell (v := .bool (decide ((i : Int) ∈ A.free))) (by rw [Nat.mul_one, Nat.zero_add, List.getElem?_map, Int.toNat_natCast, hfl]; rfl))) rfl rfl ?_
              refine RQ.ev (.neB bo4 rfl rfl) rfl rfl ?_
              refine RQ.ev (.pick_f rfl rfl) rfl rfl ?_
              refine RQ.ev (.move rfl) rfl rfl ?_
              refine RQ.splitB 77 rfl (fun h16 => ?_) (fun h16 => ?_)
              ·
                have hbad2 : ¬ (x.kind = 0 ↔ (i : Int) ∈ A.free) := (by simpa using h16)
                refine RQ.off rfl rfl ?_
                refine RQ.off rfl rfl ?_
                refine RQ.off rfl rfl ?_
                refine RQ.off rfl rfl ?_
                refine RQ.off rfl rfl ?_
                refine RQ.off rfl rfl ?_
                refine RQ.off rfl rfl ?_
                refine RQ.off rfl rfl ?_
                refine RQ.off rfl rfl ?_
                refine RQ.off rfl rfl ?_
                refine RQ.off rfl rfl ?_
                refine RQ.ev (.pick_t rfl rfl) rfl rfl ?_
                refine RQ.nil (fun w17 s18 => RC.back ?_)
                have S := S.trans s18
                have hF := hF.sub s18
                have hb_7 := hb_7.sub s18
                refine RC.cond_t rfl ?_
                refine RC.seq ?_
                refine RC.region rfl ?_
                refine RL.ev (.assign rfl) rfl rfl ?_
                refine RL.nil (RC.back ?_)
                refine RC.done (rs := [.tmp 2]) (vs := [_]) rfl rfl ⟨rfl, trivial⟩ ?_
                -- end 8
                exact ⟨congrArg Value.bool (aokB_no (fun h => hbad2 (aok_at h hx).2.1)).symm, S⟩
              ·
                have hk : (x.kind = 0 ↔ (i : Int) ∈ A.free) := (by simpa using h16)
                refine RQ.ev (.move rfl) rfl rfl ?_
                refine RQ.ev (.move rfl) rfl rfl ?_
                refine RQ.ev (.indexO sl100 rfl rfl (by omega)) rfl rfl ?_
                refine RQ.ev (.load1 sh4 rfl (hF.cell (v := .bool (decide ((i : Int) ∈ A.free))) (by rw [Nat.mul_one, Nat.zero_add, List.getElem?_map, Int.toNat_natCast, hfl]; rfl))) rfl rfl ?_
                refine RQ.ev (.move rfl) rfl rfl ?_
                refine RQ.split 82 rfl (fun h19 => ?_) (fun h19 => ?_)
                ·
                  have hmem := h19
                  refine RQ.ev (.loadR (x.cells) sh73 rfl hb_7.row rfl) rfl rfl ?_
                  refine RQ.ev (.field0 fo73_1 rfl) rfl rfl ?_
                  refine RQ.ev (.load1 sh3 rfl (hb_7.cell rfl)) rfl rfl ?_
                  refine RQ.ev (.buildS ze73 pl73 rfl rfl) rfl rfl ?_
                  refine RQ.ev (.neS (xs := x.cells) (ys := (bareN x.gen).cells) fk73 eg73 sh73 rfl rfl rfl rfl rfl) rfl rfl ?_
                  refine RQ.ev (.pick_t rfl rfl) rfl rfl ?_
                  refine RQ.ev (.pick_f rfl rfl) rfl rfl ?_
                  refine RQ.nil (fun w20 s21 => RC.back ?_)
                  have S := S.trans s21
                  have hF := hF.sub s21
                  have hb_7 := hb_7.sub s21
                  refine RC.cond rfl (fun h22 => ?_) (fun h22 => ?_)
                  ·
                    have hbad3 : ¬ x = bareN x.gen := (by have := h22; rw [eqL_cells] at this; simpa using this)
                    refine RC.seq ?_
                    refine RC.region rfl ?_
                    refine RL.ev (.assign rfl) rfl rfl ?_
                    refine RL.nil (RC.back ?_)
                    refine RC.done (rs := [.tmp 2]) (vs := [_]) rfl rfl ⟨rfl, trivial⟩ ?_
                    -- end 9
                    exact ⟨congrArg Value.bool (aokB_no (fun h => hbad3 ((aok_at h hx).2.2 hmem))).symm, S⟩
                  ·
                    have hgood : well x = true ∧ (x.kind = 0 ↔ (i : Int) ∈ A.free) ∧ ((i : Int) ∈ A.free → x = bareN x.gen) := ⟨hw, hk, fun _ => by have := h22; rw [eqL_cells] at this; simpa using this⟩
                    refine RC.skip (RC.back ?_)
                    refine RC.region rfl ?_
                    refine RL.ev (.as (.bin rfl rfl rfl) (wi64 (y := ((i + 1 : Nat) : Int)) (by omega) (by omega))) rfl rfl ?_
                    refine RL.ev (.move rfl) rfl rfl ?_
                    exact RL.nil (fun a ka => ⟨i + 1, ⟨by omega, hq.succ hx hgood, hF, S⟩, by omega, ka.keep (keep_of (by repeat (first | exact trivial | refine And.intro rfl ?_)))⟩)
                ·
                  have hgood : well x = true ∧ (x.kind = 0 ↔ (i : Int) ∈ A.free) ∧ ((i : Int) ∈ A.free → x = bareN x.gen) := ⟨hw, hk, fun h => absurd h h19⟩
                  refine RQ.off rfl rfl ?_
                  refine RQ.off rfl rfl ?_
                  refine RQ.off rfl rfl ?_
                  refine RQ.off rfl rfl ?_
                  refine RQ.off rfl rfl ?_
                  refine RQ.ev (.pick_f rfl rfl) rfl rfl ?_
                  refine RQ.ev (.pick_f rfl rfl) rfl rfl ?_
                  refine RQ.nil (fun w23 s24 => RC.back ?_)
                  have S := S.trans s24
                  have hF := hF.sub s24
                  have hb_7 := hb_7.sub s24
                  refine RC.cond_f rfl ?_
                  refine RC.skip (RC.back ?_)
                  refine RC.region rfl ?_
                  refine RL.ev (.as (.bin rfl rfl rfl) (wi64 (y := ((i + 1 : Nat) : Int)) (by omega) (by omega))) rfl rfl ?_
                  refine RL.ev (.move rfl) rfl rfl ?_
                  exact RL.nil (fun a ka => ⟨i + 1, ⟨by omega, hq.succ hx hgood, hF, S⟩, by omega, ka.keep (keep_of (by repeat (first | exact trivial | refine And.intro rfl ?_)))⟩)
          ·
            obtain rfl : i = A.nodes.length := by omega
            refine RC.exit rfl (RC.back ?_)
            refine RC.seq ?_
            refine RC.region rfl ?_
            refine RL.ev (.assign rfl) rfl rfl ?_
            refine RL.nil (RC.back ?_)
            refine RC.done (rs := [.tmp 2]) (vs := [_]) rfl rfl ⟨rfl, trivial⟩ ?_
            -- end 10
            exact ⟨congrArg Value.bool (aokB_yes (aok_mk (by omega) hp hq)).symm, S⟩
end Go.Proofs.Ytefakjhfcgjhgaa
