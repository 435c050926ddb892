/-
  New arenas, what is made, what is dropped.
-/
import Derived.Test.YtefakjhfcgjhgaaArenaGet
set_option linter.unusedVariables false
set_option linter.unusedSimpArgs false
namespace Go.Proofs.Ytefakjhfcgjhgaa
open Go Go.XL

def ar0 : Ar := ⟨[], []⟩
def arV0 : Value := .agg #[.slice none 0 0, .slice none 0 0]
/-- the first i of the places that are free in a new arena -/
def newFree (n i : Nat) : List Int := (List.range i).map fun (j : Nat) => (n : Int) - 1 - j
def newA (n : Nat) : Ar := ⟨List.replicate n (bareN 0), newFree n n⟩
theorem newFree_succ (n i : Nat) : newFree n (i + 1) = newFree n i ++ [(n : Int) - 1 - i] := by
  simp [newFree, List.range_succ]
theorem newFree_len (n i : Nat) : (newFree n i).length = i := by simp [newFree]

/-- what the new arena reads is new, or was read of the old one -/
def ArI (w w' : World) (na fa : Option Addr) (A : Ar) (na' fa' : Option Addr) (A' : Ar) : Prop :=
  ∀ N : Nat → Prop, (∀ k, N k → k < w.heap.size) → Imm N (fun u => ArR u na fa A) w → Imm N (fun u => ArR u na' fa' A') w'
theorem ArI.now {w w' na fa A na' fa' A'} (h : ArI w w' na fa A na' fa' A') (hA : ArR w na fa A) : ArR w' na' fa' A' :=
  (h (fun _ => False) (fun _ h => h.elim) (fun u hu => hA.sub hu.sub)).now
/-- an arena that is answered -/
def ArO (w w' : World) (na fa : Option Addr) (A : Ar) (v : Value) (A' : Ar) : Prop :=
  ∃ na' fa' nc' fc', v = arV na' fa' nc' fc' A' ∧ A'.nodes.length ≤ nc' ∧ A'.free.length ≤ fc' ∧ ArI w w' na fa A na' fa' A'
theorem c_aNew_no (n : Int) (hn : n < 1 ∨ 512 < n) (w : World) : FC Try.prog 15 [.int .i64 n] w (Val (.tuple #[arV0, .int .i64 1]) w) := by
  refine FC.intro Try.func15 rfl Try.ntmps15 rfl ?_
  have S := Sub.refl w
  refine RC.seq ?_
  refine RC.region rfl ?_
  refine RL.alloc ze26 rfl rfl (fun b_2 w_2 e_2 z_2 hb_2 s_2 => ?_)
  have ge_2 := S.le e_2
  have S := S.trans s_2
  refine RL.ev (.assign rfl) rfl rfl ?_
  refine RL.nil (RC.back ?_)
  refine RC.seq ?_
  refine RC.seq ?_
  refine RC.region rfl ?_
  refine RL.ev (.move rfl) rfl rfl ?_
  refine RL.ev (.bin rfl rfl rfl) rfl rfl ?_
  refine RL.ev (.move rfl) rfl rfl ?_
  refine RL.split 8 rfl (fun h1 => ?_) (fun h1 => ?_)
  ·
    refine RL.off rfl rfl ?_
    refine RL.off rfl rfl ?_
    refine RL.ev (.pick_t rfl rfl) rfl rfl ?_
    refine RL.nil (RC.back ?_)
    refine RC.cond_t rfl ?_
    refine RC.seq ?_
    refine RC.region rfl ?_
    refine RL.ev (.buildS ze26 pl26 rfl rfl) rfl rfl ?_
    refine RL.store sh26 rfl rfl rfl hb_2 (by exact Nat.le_of_ble_eq_true rfl) (by rfl) rfl (fun w2 z2 hb_2 a2 => ?_)
    have S := S.upd a2 ge_2
    have hb_2 : Has w2 b_2 ([.slice none 0 0, .slice none 0 0]) _ := hb_2.now (by kernel_rfl)
    refine RL.ev (.assign rfl) rfl rfl ?_
    refine RL.nil (RC.back ?_)
    refine RC.done (rs := [.cell 2 26, .tmp 3]) (vs := [_, _]) rfl rfl ⟨⟨_, rfl, .inr ⟨[.slice none 0 0, .slice none 0 0], sh26, hb_2.row, rfl⟩⟩, rfl, trivial⟩ ?_
    -- end 1
    exact ⟨rfl, S⟩
  ·
    refine RL.ev (.move rfl) rfl rfl ?_
    refine RL.ev (.bin rfl rfl rfl) rfl rfl ?_
    refine RL.ev (.pick_f rfl rfl) rfl rfl ?_
    refine RL.nil (RC.back ?_)
    refine RC.cond_dec rfl (fun h3 => ?_) (fun h3 => ?_)
    ·
      refine RC.seq ?_
      refine RC.region rfl ?_
      refine RL.ev (.buildS ze26 pl26 rfl rfl) rfl rfl ?_
      refine RL.store sh26 rfl rfl rfl hb_2 (by exact Nat.le_of_ble_eq_true rfl) (by rfl) rfl (fun w4 z4 hb_2 a4 => ?_)
      have S := S.upd a4 ge_2
      have hb_2 : Has w4 b_2 ([.slice none 0 0, .slice none 0 0]) _ := hb_2.now (by kernel_rfl)
      refine RL.ev (.assign rfl) rfl rfl ?_
      refine RL.nil (RC.back ?_)
      refine RC.done (rs := [.cell 2 26, .tmp 3]) (vs := [_, _]) rfl rfl ⟨⟨_, rfl, .inr ⟨[.slice none 0 0, .slice none 0 0], sh26, hb_2.row, rfl⟩⟩, rfl, trivial⟩ ?_
      -- end 2
      exact ⟨rfl, S⟩
    ·
      exact absurd hn (by omega)
theorem c_aNew (n : Nat) (hn : 1 ≤ n ∧ n ≤ 512) (w : World) : FC Try.prog 15 [.int .i64 n] w (fun v w' => ∃ na fa nc fc, v = .tuple #[arV na fa nc fc (newA n), .int .i64 0] ∧ (newA n).nodes.length ≤ nc ∧ (newA n).free.length ≤ fc ∧ (∀ N : Nat → Prop, (∀ k, N k → k < w.heap.size) → Imm N (fun u => ArR u na fa (newA n)) w') ∧ Sub w w') := by
  refine FC.intro Try.func15 rfl Try.ntmps15 rfl ?_
  have S := Sub.refl w
  refine RC.seq ?_
  refine RC.region rfl ?_
  refine RL.alloc ze26 rfl rfl (fun b_2 w_2 e_2 z_2 hb_2 s_2 => ?_)
  have ge_2 := S.le e_2
  have S := S.trans s_2
  refine RL.ev (.assign rfl) rfl rfl ?_
  refine RL.nil (RC.back ?_)
  refine RC.seq ?_
  refine RC.seq ?_
  refine RC.region rfl ?_
  refine RL.ev (.move rfl) rfl rfl ?_
  refine RL.ev (.bin rfl rfl rfl) rfl rfl ?_
  refine RL.ev (.move rfl) rfl rfl ?_
  refine RL.split 8 rfl (fun h1 => ?_) (fun h1 => ?_)
  ·
    exact absurd h1 (by omega)
  ·
    refine RL.ev (.move rfl) rfl rfl ?_
    refine RL.ev (.bin rfl rfl rfl) rfl rfl ?_
    refine RL.ev (.pick_f rfl rfl) rfl rfl ?_
    refine RL.nil (RC.back ?_)
    refine RC.cond_dec rfl (fun h2 => ?_) (fun h2 => ?_)
    ·
      exact absurd h2 (by omega)
    ·
      refine RC.skip (RC.back ?_)
      refine RC.seq ?_
      refine RC.region rfl ?_
      refine RL.ev (.move rfl) rfl rfl ?_
      refine RL.makeSlice sl23 ze73 rfl rfl rfl rfl (by omega) rfl rfl (fun b_14 w_14 e_14 z_14 hb_14 s_14 => ?_)
      have ge_14 := S.le e_14
      have n_2__14 := hb_2.ne e_14
      have S := S.trans s_14
      have hb_2 := hb_2.sub s_14
      refine RL.ev (.buildS ze26 pl26 rfl rfl) rfl rfl ?_
      refine RL.alloc ze26 rfl rfl (fun b_4 w_4 e_4 z_4 hb_4 s_4 => ?_)
      have ge_4 := S.le e_4
      have n_2__4 := hb_2.ne e_4
      have n_14__4 := hb_14.ne e_4
      have S := S.trans s_4
      have hb_2 := hb_2.sub s_4
      have hb_14 := hb_14.sub s_4
      refine RL.store sh26 rfl rfl rfl hb_4 (by exact Nat.le_of_ble_eq_true rfl) (by rfl) rfl (fun w3 z3 hb_4 a3 => ?_)
      have S := S.upd a3 ge_4
      have hb_2 := hb_2.upd a3 n_2__4
      have hb_14 := hb_14.upd a3 n_14__4
      have hb_4 : Has w3 b_4 ([.slice (some ⟨b_14, 0, none⟩) n n, .slice none 0 0]) _ := hb_4.now (by kernel_rfl)
      refine RL.nil (RC.back ?_)
      refine RC.seq ?_
      refine RC.seq ?_
      refine RC.region rfl ?_
      refine RL.ev (.move rfl) rfl rfl ?_
      refine RL.ev (.move rfl) rfl rfl ?_
      have lt_2 := hb_2.lt
      have lt_4 := hb_4.lt
      have lt_14 := hb_14.lt
      obtain ⟨B, szB⟩ : ∃ B, B = w3.heap.size := ⟨_, rfl⟩
      refine RL.nil (RC.back ?_)
      refine RC.block ?_
      refine RC.loop (α := Nat × Value) (fun x => [(0, .int .i64 (n : Int)), (4, .pointer (some ⟨b_4, 0, none⟩)), (2, .pointer (some ⟨b_2, 0, none⟩)), (16, .int .i64 (n : Int)), (17, .int .i64 (x.1 : Int))]) (fun x w4 => x.1 ≤ n ∧ Ows B w4 3 1 x.2 ((newFree n x.1).map fun x => [i6 x]) ∧ Has w4 b_4 [.slice (some ⟨b_14, 0, none⟩) n n, x.2] 26 ∧ Has w4 b_2 [.slice none 0 0, .slice none 0 0] 26 ∧ Has w4 b_14 (List.replicate n (bareN 0).cells).flatten 73 ∧ B ≤ w4.heap.size ∧ Sub w w4) (fun x => n - x.1) (0, .slice none 0 0) (keep_of (by repeat (first | exact trivial | refine And.intro rfl ?_))) (⟨Nat.zero_le _, Ows.nil _ _ _ _, hb_4, hb_2, by have := hb_14; rw [Int.toNat_natCast] at this; exact this, by omega, S⟩) (fun x w4 hJ => ?_)
      obtain ⟨i, u⟩ := x; obtain ⟨hi, ho, hb_4, hb_2, hb_14, szB, S⟩ := hJ
      refine RC.seq ?_
      refine RC.region rfl ?_
      refine RL.ev (.bin rfl rfl rfl) rfl rfl ?_
      refine RL.nil (RC.back ?_)
      refine RC.seq ?_
      refine RC.cond_dec rfl (fun h5 => ?_) (fun h5 => ?_)
      ·
        refine RC.skip (RC.back ?_)
        refine RC.seq ?_
        refine RC.block ?_
        refine RC.seq ?_
        refine RC.region rfl ?_
        refine RL.ev (.move rfl) rfl rfl ?_
        refine RL.ev (.assign rfl) rfl rfl ?_
        refine RL.nil (RC.back ?_)
        refine RC.region rfl ?_
        refine RL.ev (.field0 fo26_1 rfl) rfl rfl ?_
        refine RL.ev (.load1 sh24 rfl (hb_4.cell rfl)) rfl rfl ?_
        refine RL.ev (.move rfl) rfl rfl ?_
        refine RL.ev (.as (.bin rfl rfl rfl) (wi64 (y := (n : Int) - 1) (by rfl) (by omega))) rfl rfl ?_
        refine RL.ev (.move rfl) rfl rfl ?_
        refine RL.ev (.as (.bin rfl rfl rfl) (wi64 (y := (n : Int) - 1 - (i : Int)) (by rfl) (by omega))) rfl rfl ?_
        refine RL.buildSlice1 sl24 _ ze3 rfl rfl rfl rfl rfl rfl rfl (fun b_26 w_26 e_26 z_26 hb_26 s_26 => ?_)
        have ge_26 := S.le e_26
        have n_2__26 := hb_2.ne e_26
        have n_4__26 := hb_4.ne e_26
        have n_14__26 := hb_14.ne e_26
        have S := S.trans s_26
        have hb_2 := hb_2.sub s_26
        have hb_4 := hb_4.sub s_26
        have hb_14 := hb_14.sub s_26
        have szB := Nat.le_trans szB s_26.size
        have ho := ho.sub s_26
        have sz_27 := S.size
        have ltb_2_27 := hb_2.lt
        have ltb_4_27 := hb_4.lt
        have ltb_14_27 := hb_14.lt
        have ltb_26_27 := hb_26.lt
        refine RL.append2 (base := B) (rows := (newFree n i).map fun x => [i6 x]) (news := [_]) sl24 ze3 rfl rfl rfl rfl (.inl ho) (Has.slOne hb_26) rfl (by intro r hr; rw [List.mem_singleton] at hr; subst hr; rfl) rfl (by (try simp only [List.length_map, List.length_nil, List.length_append, List.length_cons]); rw [newFree_len]; omega) (by (try simp only [List.length_map, List.length_nil, List.length_append, List.length_cons]); rw [newFree_len]; omega) (by omega) rfl rfl (fun v_27 w_27 hc_27 ho_27 ag_27 ob_27 => ?_)
        have S := S.agrN ag_27 (fun k e => Nat.le_trans (by omega) e.2)
        have hb_2 := hb_2.step ag_27 (fun e => absurd e.2 (by omega))
        have hb_4 := hb_4.step ag_27 (fun e => absurd e.2 (by omega))
        have hb_14 := hb_14.step ag_27 (fun e => absurd e.2 (by omega))
        have szB := Nat.le_trans szB ag_27.size
        have hO := ho_27 (.inl (by simp))
        rw [show (newFree n i).map (fun x => [i6 x]) ++ [_] = (newFree n (i + 1)).map (fun x => [i6 x]) from by rw [newFree_succ, List.map_append]; rfl] at hO
        obtain ⟨a_27, c_27, rfl, k_27⟩ := hO.form
        refine RL.ev (.field0 fo26_1 rfl) rfl rfl ?_
        refine RL.store sh24 rfl rfl rfl hb_4 (by exact Nat.le_of_ble_eq_true rfl) (by rfl) rfl (fun w6 z6 hb_4 a6 => ?_)
        have S := S.upd a6 ge_4
        have hb_2 := hb_2.upd a6 n_2__4
        have hb_14 := hb_14.upd a6 n_14__4
        have szB := Nat.le_trans szB a6.size
        have hO := hO.upd a6 (by omega)
        have hb_4 : Has w6 b_4 ([.slice (some ⟨b_14, 0, none⟩) n n, .slice a_27 ((newFree n (i + 1)).map fun x => [i6 x]).length c_27]) _ := hb_4
        refine RL.nil (RC.back ?_)
        refine RC.region rfl ?_
        refine RL.ev (.as (.bin rfl rfl rfl) (wi64 (y := ((i + 1 : Nat) : Int)) (by omega) (by omega))) rfl rfl ?_
        refine RL.ev (.move rfl) rfl rfl ?_
        exact RL.nil (fun a ka => ⟨(i + 1, _), ⟨by omega, hO, hb_4, hb_2, hb_14, szB, S⟩, by omega, ka.keep (keep_of (by repeat (first | exact trivial | refine And.intro rfl ?_)))⟩)
      ·
        obtain rfl : n = i := (by omega)
        obtain ⟨a_u, c_u, hu, k_u⟩ := ho.form
        simp only [] at hu
        subst hu
        refine RC.exit rfl (RC.back ?_)
        refine RC.seq ?_
        refine RC.region rfl ?_
        refine RL.ev (.loadR ([.slice (some ⟨b_14, 0, none⟩) n n, .slice a_u ((newFree n n).map fun x => [i6 x]).length c_u]) sh26 rfl hb_4.row rfl) rfl rfl ?_
        refine RL.store sh26 rfl rfl rfl hb_2 (by exact Nat.le_of_ble_eq_true rfl) (by rfl) rfl (fun w7 z7 hb_2 a7 => ?_)
        have S := S.upd a7 ge_2
        have hb_4 := hb_4.upd a7 n_2__4.symm
        have hb_14 := hb_14.upd a7 n_2__14.symm
        have szB := Nat.le_trans szB a7.size
        have ho := ho.upd a7 (by omega)
        have hb_2 : Has w7 b_2 ([.slice (some ⟨b_14, 0, none⟩) n n, .slice a_u ((newFree n n).map fun x => [i6 x]).length c_u]) _ := hb_2.now (by kernel_rfl)
        refine RL.ev (.assign rfl) rfl rfl ?_
        refine RL.nil (RC.back ?_)
        refine RC.done (rs := [.cell 2 26, .tmp 3]) (vs := [_, _]) rfl rfl ⟨⟨_, rfl, .inr ⟨[.slice (some ⟨b_14, 0, none⟩) n n, .slice a_u ((newFree n n).map fun x => [i6 x]).length c_u], sh26, hb_2.row, rfl⟩⟩, rfl, trivial⟩ ?_
        -- end 1
        refine ⟨some ⟨b_14, 0, none⟩, a_u, n, c_u, ?_, by simp [newA], by simpa [newA] using k_u, fun N hN W hW => ⟨?_, (ho.imm (N := N) (fun k hk => by have := hN k hk; omega)) W hW, ?_, ?_⟩, S⟩
        · simp only [arV, newA, List.length_replicate, List.length_map]; rfl
        · show Sl W _ 16 ((List.replicate n (bareN 0)).map Node.cells)
          rw [List.map_replicate]
          exact Has.sl0 (hb_14.step hW (fun e => by have := hN _ e; omega)) (fun r hr => by rw [(List.mem_replicate.1 hr).2]; rfl)
        · intro x hx
          rw [newA] at hx
          rw [(List.mem_replicate.1 hx).2]
          exact bareN_ok z64
        · intro x hx
          obtain ⟨j, hj, rfl⟩ := List.mem_map.1 hx
          have := List.mem_range.1 hj
          unfold I64
          omega

/-! ### a free node is made one -/
def x0 (x : Node) : Node := { x with gen := 0 }
theorem x0_ok {x : Node} (h : x.ok) : (x0 x).ok := ⟨h.kind, z64, h.n, h.v, h.s, h.kids, h.pre, h.suf⟩
/-- may a node be made? -/
def mayMake (A : Ar) (x : Node) : Prop := AOk A ∧ 1 ≤ x.kind ∧ x.kind ≤ 100 ∧ well (x0 x) = true
def lastAt (A : Ar) : Int := A.free.getD (A.free.length - 1) 0
def genAt (A : Ar) (p : Int) : Int := (A.nodes.getD p.toNat (bareN 0)).gen
def madeN (A : Ar) (x : Node) : Node := { x with gen := genAt A (lastAt A) }
def makeA (A : Ar) (x : Node) : Ar := ⟨A.nodes.set (lastAt A).toNat (madeN A x), A.free.take (A.free.length - 1)⟩
def makeR (A : Ar) : Int := ofR (lastAt A) (genAt A (lastAt A))
theorem lastAt_get {A : Ar} (h : 0 < A.free.length) : A.free[A.free.length - 1]? = some (lastAt A) := by
  rw [lastAt, List.getD_eq_getElem?_getD, List.getElem?_eq_getElem (by omega)]; rfl
theorem lastAt_in {A : Ar} (hA : AOk A) (h : 0 < A.free.length) : 0 ≤ lastAt A ∧ lastAt A < A.nodes.length := hA.free _ (List.mem_of_getElem? (lastAt_get h))
theorem genAt_get {A : Ar} {p : Int} {y : Node} (h : A.nodes[p.toNat]? = some y) : genAt A p = y.gen := by
  rw [genAt, List.getD_eq_getElem?_getD, h]; rfl
theorem genAt_rng {A : Ar} (hA : AOk A) {p : Int} (h : 0 ≤ p ∧ p < A.nodes.length) : 0 ≤ genAt A p ∧ genAt A p ≤ 1048576 := by
  obtain ⟨y, hy⟩ := getSome (l := A.nodes) (i := p.toNat) (by omega)
  rw [genAt_get hy]
  have := (well_iff y).1 (hA.well y (List.mem_of_getElem? hy))
  omega
theorem make_isR {A : Ar} (hA : AOk A) (h : 0 < A.free.length) : isR (lastAt A) (genAt A (lastAt A)) = true := by
  have h1 := lastAt_in hA h
  have h2 := genAt_rng hA h1
  have := hA.most
  rw [isR_iff]; omega

theorem c_aMake (A : Ar) (na fa : Option Addr) (nc fc : Nat) (x : Node) (hx : x.ok) (w : World) (hA : ArR w na fa A) (hfc : A.free.length ≤ fc) :
    FC Try.prog 50 [arV na fa nc fc A, x.val] w (fun v w' => Sub w w' ∧ (¬ mayMake A x ∧ v = .tuple #[arV0, .int .u64 0, .int .i64 1] ∨ mayMake A x ∧ A.free.length = 0 ∧ v = .tuple #[arV0, .int .u64 0, .int .i64 2] ∨
      mayMake A x ∧ 0 < A.free.length ∧ ∃ av, v = .tuple #[av, .int .u64 (makeR A), .int .i64 0] ∧ ArO w w' na fa A av (makeA A x))) := by
  have hN := hA.nodes
  have hFr := hA.free
  refine FC.intro Try.func50 rfl Try.ntmps50 rfl ?_
  have S := Sub.refl w
  have ek : (x0 x).kind = x.kind := rfl
  refine RC.seq ?_
  refine RC.region rfl ?_
  refine RL.box rfl rfl rfl (fun b_2 w_2 e_2 z_2 hb_2 s_2 => ?_)
  have ge_2 := S.le e_2
  have S := S.trans s_2
  have hb_2 : Has w_2 b_2 ([.slice na A.nodes.length nc, .slice fa A.free.length fc]) _ := hb_2
  refine RL.box rfl rfl rfl (fun b_3 w_3 e_3 z_3 hb_3 s_3 => ?_)
  have ge_3 := S.le e_3
  have n_2__3 := hb_2.ne e_3
  have S := S.trans s_3
  have hb_2 := hb_2.sub s_3
  have hb_3 : Has w_3 b_3 (x.cells) _ := hb_3
  refine RL.alloc ze26 rfl rfl (fun b_4 w_4 e_4 z_4 hb_4 s_4 => ?_)
  have ge_4 := S.le e_4
  have n_2__4 := hb_2.ne e_4
  have n_3__4 := hb_3.ne e_4
  have S := S.trans s_4
  have hb_2 := hb_2.sub s_4
  have hb_3 := hb_3.sub s_4
  refine RL.ev (.assign rfl) rfl rfl ?_
  refine RL.ev (.assign rfl) rfl rfl ?_
  refine RL.nil (RC.back ?_)
  refine RC.seq ?_
  refine RC.region rfl ?_
  refine RL.ev (.field0 fo73_1 rfl) rfl rfl ?_
  refine RL.store sh3 rfl rfl rfl hb_3 (by exact Nat.le_of_ble_eq_true rfl) (by rfl) rfl (fun w1 z1 hb_3 a1 => ?_)
  have S := S.upd a1 ge_3
  have hb_2 := hb_2.upd a1 n_2__3
  have hb_4 := hb_4.upd a1 n_3__4.symm
  have hb_3 : Has w1 b_3 ((x0 x).cells) _ := hb_3
  refine RL.nil (RC.back ?_)
  refine RC.seq ?_
  refine RC.block ?_
  refine RC.seq ?_
  refine RC.region rfl ?_
  refine RL.ev (.loadR ([.slice na A.nodes.length nc, .slice fa A.free.length fc]) sh26 rfl hb_2.row rfl) rfl rfl ?_
  refine RL.call rfl ok51 (c_aRight A na fa nc fc w1 (hA.sub S)) rfl rfl ?_
  rintro _ w2 ⟨rfl, s3⟩
  have S := S.trans s3
  have hb_2 := hb_2.sub s3
  have hb_3 := hb_3.sub s3
  have hb_4 := hb_4.sub s3
  refine RL.ev (.not rfl) rfl rfl ?_
  refine RL.ev (.move rfl) rfl rfl ?_
  refine RL.splitB 16 rfl (fun h4 => ?_) (fun h4 => ?_)
  ·
    have q1 : ¬ AOk A := (fun h => by have h2 := h4; rw [aokB_yes h] at h2; cases h2)
    refine RL.off rfl rfl ?_
    refine RL.off rfl rfl ?_
    refine RL.off rfl rfl ?_
    refine RL.ev (.pick_t rfl rfl) rfl rfl ?_
    refine RL.ev (.move rfl) rfl rfl ?_
    refine RL.off rfl rfl ?_
    refine RL.off rfl rfl ?_
    refine RL.off rfl rfl ?_
    refine RL.ev (.pick_t rfl rfl) rfl rfl ?_
    refine RL.ev (.move rfl) rfl rfl ?_
    refine RL.off rfl rfl ?_
    refine RL.off rfl rfl ?_
    refine RL.off rfl rfl ?_
    refine RL.ev (.pick_t rfl rfl) rfl rfl ?_
    refine RL.ev (.assign rfl) rfl rfl ?_
    refine RL.nil (RC.back ?_)
    refine RC.cond_t rfl ?_
    refine RC.seq ?_
    refine RC.region rfl ?_
    refine RL.ev (.buildS ze26 pl26 rfl rfl) rfl rfl ?_
    refine RL.store sh26 rfl rfl rfl hb_4 (by exact Nat.le_of_ble_eq_true rfl) (by rfl) rfl (fun w5 z5 hb_4 a5 => ?_)
    have S := S.upd a5 ge_4
    have hb_2 := hb_2.upd a5 n_2__4
    have hb_3 := hb_3.upd a5 n_3__4
    have hb_4 : Has w5 b_4 ([.slice none 0 0, .slice none 0 0]) _ := hb_4.now (by kernel_rfl)
    refine RL.ev (.assign rfl) rfl rfl ?_
    refine RL.ev (.assign rfl) rfl rfl ?_
    refine RL.nil (RC.back ?_)
    refine RC.done (rs := [.cell 4 26, .tmp 5, .tmp 6]) (vs := [_, _, _]) rfl rfl ⟨⟨_, rfl, .inr ⟨[.slice none 0 0, .slice none 0 0], sh26, hb_4.row, rfl⟩⟩, rfl, rfl, trivial⟩ ?_
    -- end 1
    exact ⟨S, .inl ⟨fun h => q1 h.1, rfl⟩⟩
  ·
    have hok : AOk A := (aokB_iff A).1 (by simpa using h4)
    have hmost := hok.most
    have hone := hok.one
    have hfit := hok.fit
    refine RL.ev (.field0 fo73_0 rfl) rfl rfl ?_
    refine RL.ev (.load1 sh3 rfl (hb_3.cell rfl)) rfl rfl ?_
    refine RL.ev (.bin rfl rfl rfl) rfl rfl ?_
    refine RL.ev (.pick_f rfl rfl) rfl rfl ?_
    refine RL.ev (.move rfl) rfl rfl ?_
    refine RL.split 21 rfl (fun h6 => ?_) (fun h6 => ?_)
    ·
      refine RL.off rfl rfl ?_
      refine RL.off rfl rfl ?_
      refine RL.off rfl rfl ?_
      refine RL.ev (.pick_t rfl rfl) rfl rfl ?_
      refine RL.ev (.move rfl) rfl rfl ?_
      refine RL.off rfl rfl ?_
      refine RL.off rfl rfl ?_
      refine RL.off rfl rfl ?_
      refine RL.ev (.pick_t rfl rfl) rfl rfl ?_
      refine RL.ev (.assign rfl) rfl rfl ?_
      refine RL.nil (RC.back ?_)
      refine RC.cond_t rfl ?_
      refine RC.seq ?_
      refine RC.region rfl ?_
      refine RL.ev (.buildS ze26 pl26 rfl rfl) rfl rfl ?_
      refine RL.store sh26 rfl rfl rfl hb_4 (by exact Nat.le_of_ble_eq_true rfl) (by rfl) rfl (fun w7 z7 hb_4 a7 => ?_)
      have S := S.upd a7 ge_4
      have hb_2 := hb_2.upd a7 n_2__4
      have hb_3 := hb_3.upd a7 n_3__4
      have hb_4 : Has w7 b_4 ([.slice none 0 0, .slice none 0 0]) _ := hb_4.now (by kernel_rfl)
      refine RL.ev (.assign rfl) rfl rfl ?_
      refine RL.ev (.assign rfl) rfl rfl ?_
      refine RL.nil (RC.back ?_)
      refine RC.done (rs := [.cell 4 26, .tmp 5, .tmp 6]) (vs := [_, _, _]) rfl rfl ⟨⟨_, rfl, .inr ⟨[.slice none 0 0, .slice none 0 0], sh26, hb_4.row, rfl⟩⟩, rfl, rfl, trivial⟩ ?_
      -- end 2
      exact ⟨S, .inl ⟨fun h => by have := h.2.1; omega, rfl⟩⟩
    ·
      refine RL.ev (.field0 fo73_0 rfl) rfl rfl ?_
      refine RL.ev (.load1 sh3 rfl (hb_3.cell rfl)) rfl rfl ?_
      refine RL.ev (.bin rfl rfl rfl) rfl rfl ?_
      refine RL.ev (.pick_f rfl rfl) rfl rfl ?_
      refine RL.ev (.move rfl) rfl rfl ?_
      refine RL.split 26 rfl (fun h8 => ?_) (fun h8 => ?_)
      ·
        refine RL.off rfl rfl ?_
        refine RL.off rfl rfl ?_
        refine RL.off rfl rfl ?_
        refine RL.ev (.pick_t rfl rfl) rfl rfl ?_
        refine RL.ev (.assign rfl) rfl rfl ?_
        refine RL.nil (RC.back ?_)
        refine RC.cond_t rfl ?_
        refine RC.seq ?_
        refine RC.region rfl ?_
        refine RL.ev (.buildS ze26 pl26 rfl rfl) rfl rfl ?_
        refine RL.store sh26 rfl rfl rfl hb_4 (by exact Nat.le_of_ble_eq_true rfl) (by rfl) rfl (fun w9 z9 hb_4 a9 => ?_)
        have S := S.upd a9 ge_4
        have hb_2 := hb_2.upd a9 n_2__4
        have hb_3 := hb_3.upd a9 n_3__4
        have hb_4 : Has w9 b_4 ([.slice none 0 0, .slice none 0 0]) _ := hb_4.now (by kernel_rfl)
        refine RL.ev (.assign rfl) rfl rfl ?_
        refine RL.ev (.assign rfl) rfl rfl ?_
        refine RL.nil (RC.back ?_)
        refine RC.done (rs := [.cell 4 26, .tmp 5, .tmp 6]) (vs := [_, _, _]) rfl rfl ⟨⟨_, rfl, .inr ⟨[.slice none 0 0, .slice none 0 0], sh26, hb_4.row, rfl⟩⟩, rfl, rfl, trivial⟩ ?_
        -- end 3
        exact ⟨S, .inl ⟨fun h => by have := h.2.2.1; omega, rfl⟩⟩
      ·
        refine RL.ev (.loadR ((x0 x).cells) sh73 rfl hb_3.row rfl) rfl rfl ?_
        refine RL.call rfl ok61 (c_well (x0 x) (x0_ok hx) w2) rfl rfl ?_
        rintro _ w10 ⟨rfl, s11⟩
        have S := S.trans s11
        have hb_2 := hb_2.sub s11
        have hb_3 := hb_3.sub s11
        have hb_4 := hb_4.sub s11
        refine RL.ev (.not rfl) rfl rfl ?_
        refine RL.ev (.pick_f rfl rfl) rfl rfl ?_
        refine RL.ev (.assign rfl) rfl rfl ?_
        refine RL.nil (RC.back ?_)
        refine RC.cond rfl (fun h12 => ?_) (fun h12 => ?_)
        ·
          have q2 := h12
          refine RC.seq ?_
          refine RC.region rfl ?_
          refine RL.ev (.buildS ze26 pl26 rfl rfl) rfl rfl ?_
          refine RL.store sh26 rfl rfl rfl hb_4 (by exact Nat.le_of_ble_eq_true rfl) (by rfl) rfl (fun w13 z13 hb_4 a13 => ?_)
          have S := S.upd a13 ge_4
          have hb_2 := hb_2.upd a13 n_2__4
          have hb_3 := hb_3.upd a13 n_3__4
          have hb_4 : Has w13 b_4 ([.slice none 0 0, .slice none 0 0]) _ := hb_4.now (by kernel_rfl)
          refine RL.ev (.assign rfl) rfl rfl ?_
          refine RL.ev (.assign rfl) rfl rfl ?_
          refine RL.nil (RC.back ?_)
          refine RC.done (rs := [.cell 4 26, .tmp 5, .tmp 6]) (vs := [_, _, _]) rfl rfl ⟨⟨_, rfl, .inr ⟨[.slice none 0 0, .slice none 0 0], sh26, hb_4.row, rfl⟩⟩, rfl, rfl, trivial⟩ ?_
          -- end 4
          exact ⟨S, .inl ⟨fun h => (by rw [h.2.2.2] at q2; cases q2), rfl⟩⟩
        ·
          have hm : mayMake A x := ⟨hok, by omega, by omega, by simpa using h12⟩
          refine RC.seq ?_
          refine RC.region rfl ?_
          refine RL.ev (.field0 fo26_1 rfl) rfl rfl ?_
          refine RL.ev (.load1 sh24 rfl (hb_2.cell rfl)) rfl rfl ?_
          refine RL.ev (.len sl24 rfl) rfl rfl ?_
          refine RL.ev (.bin rfl rfl rfl) rfl rfl ?_
          refine RL.ev (.assign rfl) rfl rfl ?_
          refine RL.nil (RC.back ?_)
          refine RC.cond_dec rfl (fun h14 => ?_) (fun h14 => ?_)
          ·
            refine RC.seq ?_
            refine RC.region rfl ?_
            refine RL.ev (.buildS ze26 pl26 rfl rfl) rfl rfl ?_
            refine RL.store sh26 rfl rfl rfl hb_4 (by exact Nat.le_of_ble_eq_true rfl) (by rfl) rfl (fun w15 z15 hb_4 a15 => ?_)
            have S := S.upd a15 ge_4
            have hb_2 := hb_2.upd a15 n_2__4
            have hb_3 := hb_3.upd a15 n_3__4
            have hb_4 : Has w15 b_4 ([.slice none 0 0, .slice none 0 0]) _ := hb_4.now (by kernel_rfl)
            refine RL.ev (.assign rfl) rfl rfl ?_
            refine RL.ev (.assign rfl) rfl rfl ?_
            refine RL.nil (RC.back ?_)
            refine RC.done (rs := [.cell 4 26, .tmp 5, .tmp 6]) (vs := [_, _, _]) rfl rfl ⟨⟨_, rfl, .inr ⟨[.slice none 0 0, .slice none 0 0], sh26, hb_4.row, rfl⟩⟩, rfl, rfl, trivial⟩ ?_
            -- end 5
            exact ⟨S, .inr (.inl ⟨hm, by omega, rfl⟩)⟩
          ·
            have hpos : 0 < A.free.length := (by omega)
            have hat := lastAt_in hok hpos
            have hgr := genAt_rng hok hat
            obtain ⟨y, hy⟩ := getSome (l := A.nodes) (i := (lastAt A).toNat) (by omega)
            have hgy := genAt_get hy
            refine RC.skip (RC.back ?_)
            refine RC.seq ?_
            refine RC.region rfl ?_
            refine RL.ev (.field0 fo26_1 rfl) rfl rfl ?_
            refine RL.ev (.load1 sh24 rfl (hb_2.cell rfl)) rfl rfl ?_
            refine RL.ev (.len sl24 rfl) rfl rfl ?_
            refine RL.ev (.as (.bin rfl rfl rfl) (wi64 (y := ((A.free.length - 1 : Nat) : Int)) (by omega) (by omega))) rfl rfl ?_
            refine RL.ev (.assign rfl) rfl rfl ?_
            refine RL.nil (RC.back ?_)
            refine RC.seq ?_
            refine RC.region rfl ?_
            refine RL.ev (.field0 fo26_1 rfl) rfl rfl ?_
            refine RL.ev (.load1 sh24 rfl (hb_2.cell rfl)) rfl rfl ?_
            refine RL.ev (.move rfl) rfl rfl ?_
            refine RL.ev (.indexS sl24 rfl rfl (by omega) (hFr.is (i := 0) (by simp only [List.length_map]; omega))) rfl rfl ?_
            refine RL.ev (.as (v' := .int .i64 (lastAt A)) (.load1 sh3 rfl ((hFr.sub S).one (enc := i6) (i := A.free.length - 1) (x := lastAt A) (by exact lastAt_get hpos))) (by rfl)) rfl rfl ?_
            refine RL.ev (.assign rfl) rfl rfl ?_
            refine RL.nil (RC.back ?_)
            refine RC.seq ?_
            refine RC.region rfl ?_
            refine RL.ev (.field0 fo26_0 rfl) rfl rfl ?_
            refine RL.ev (.load1 sh23 rfl (hb_2.cell rfl)) rfl rfl ?_
            refine RL.ev (.move rfl) rfl rfl ?_
            refine RL.ev (.indexS sl23 rfl rfl (by omega) (hN.is (i := 0) (by simp only [List.length_map]; omega))) rfl rfl ?_
            refine RL.ev (.fieldA fo73_1 rfl) rfl rfl ?_
            refine RL.ev (.as (v' := .int .i64 (genAt A (lastAt A))) (.load1 sh3 rfl ((hN.sub S).cell (enc := Node.cells) (j := 1) hy rfl)) (by rw [hgy])) rfl rfl ?_
            refine RL.ev (.field0 fo73_1 rfl) rfl rfl ?_
            refine RL.store sh3 rfl rfl rfl hb_3 (by exact Nat.le_of_ble_eq_true rfl) (by rfl) rfl (fun w16 z16 hb_3 a16 => ?_)
            have S := S.upd a16 ge_3
            have hb_2 := hb_2.upd a16 n_2__3
            have hb_4 := hb_4.upd a16 n_3__4.symm
            have hb_3 : Has w16 b_3 ((madeN A x).cells) _ := hb_3
            refine RL.nil (RC.back ?_)
            refine RC.cutx (α := Option Addr × Nat) (fun x_ => [(2, .pointer (some ⟨b_2, 0, none⟩)), (3, .pointer (some ⟨b_3, 0, none⟩)), (4, .pointer (some ⟨b_4, 0, none⟩)), (8, .int .i64 (lastAt A))]) (fun x_ w17 => ∃ B, b_2 < B ∧ b_3 < B ∧ b_4 < B ∧ w.heap.size ≤ B ∧ Ows B w17 73 16 (.slice x_.1 (A.nodes.map Node.cells).length x_.2) (A.nodes.map Node.cells) ∧ Has w17 b_2 [.slice x_.1 (A.nodes.map Node.cells).length x_.2, .slice fa (A.free.length - 1) (A.free.length - 1)] 26 ∧ Has w17 b_3 (madeN A x).cells 73 ∧ Has w17 b_4 [.slice none 0 0, .slice none 0 0] 26 ∧ Sub w w17) ?_ (fun x_ w17 hJ => ?_)
            ·
              refine RC.drawD (fun k => k = b_2) [9, 11] w16.heap.size 12 rfl rfl mxo (fun w18 s19 => ?_)
              have hNN : ∀ k, ((k = b_2) ∨ w16.heap.size ≤ k) → w.heap.size ≤ k := fun k e => e.elim (fun e => e ▸ ge_2) (fun e => Nat.le_trans S.size e)
              have ent_S := S.size
              have hN0 : ∀ k, w16.heap.size ≤ k → w.heap.size ≤ k := fun k e => Nat.le_trans S.size e
              have ltD_b_2 := hb_2.lt
              have ltD_b_3 := hb_3.lt
              have ltD_b_4 := hb_4.lt
              have szD := Nat.le_refl w16.heap.size
              have S := S.trans s19
              have hb_2 := hb_2.sub s19
              have hb_3 := hb_3.sub s19
              have hb_4 := hb_4.sub s19
              have szD := Nat.le_trans szD s19.size
              refine RD.take 0 rfl (by kernel_rfl) (by kernel_rfl) (by kernel_rfl) (fun w' s' => .field0 fo26_0 rfl) rfl rfl ?_
              refine RD.takeL 1 rfl (by kernel_rfl) (by kernel_rfl) (by kernel_rfl) (by kernel_rfl) (fun w' s' => .load1 sh23 rfl ((hb_2.step s' (fun e => Nat.not_le.2 ltD_b_2 e)).cell rfl)) rfl rfl ?_
              refine RD.take 3 rfl (by kernel_rfl) (by kernel_rfl) (by kernel_rfl) (fun w' s' => .field0 fo26_1 rfl) rfl rfl ?_
              refine RD.takeL 4 rfl (by kernel_rfl) (by kernel_rfl) (by kernel_rfl) (by kernel_rfl) (fun w' s' => .load1 sh24 rfl ((hb_2.step s' (fun e => Nat.not_le.2 ltD_b_2 e)).cell rfl)) rfl rfl ?_
              refine RD.take 5 rfl (by kernel_rfl) (by kernel_rfl) (by kernel_rfl) (fun w' s' => .move rfl) rfl rfl ?_
              refine RD.take 6 rfl (by kernel_rfl) (by kernel_rfl) (by kernel_rfl) (fun w' s' => .move rfl) rfl rfl ?_
              refine RD.take 7 rfl (by kernel_rfl) (by kernel_rfl) (by kernel_rfl) (fun w' s' => .sliceHM sl24 rfl rfl rfl (by omega)) rfl rfl ?_
              refine RD.all [2] (by kernel_rfl) rfl (RDs.cons rfl ?_ (RDs.nil))
              refine RL.call rfl ok62 (c_cloneNodes A.nodes na nc w18 (hN.sub S) (by omega)) rfl rfl ?_
              rintro u w20 ⟨ho, s21⟩
              have ltc := hb_2.lt
              have szC := szD
              have S := S.trans s21
              have hb_2 := hb_2.sub s21
              have hb_3 := hb_3.sub s21
              have hb_4 := hb_4.sub s21
              have szD := Nat.le_trans szD s21.size
              obtain ⟨ca, cc, rfl, kc⟩ := ho.form
              refine RD.back s21.agr ?_
              refine RD.take 8 rfl (by kernel_rfl) (by kernel_rfl) (by kernel_rfl) (fun w' s' => .field0 fo26_0 rfl) rfl rfl ?_
              refine RD.all [9] (by kernel_rfl) rfl (RDs.cons rfl ?_ (RDs.nil))
              refine RL.store sh23 rfl rfl rfl hb_2 (by exact Nat.le_of_ble_eq_true rfl) (by rfl) rfl (fun w22 z22 hb_2 a22 => ?_)
              have S := S.upd a22 ge_2
              have hb_3 := hb_3.upd a22 n_2__3.symm
              have hb_4 := hb_4.upd a22 n_2__4.symm
              have szD := Nat.le_trans szD a22.size
              have ho := ho.upd a22 (by omega)
              refine RD.backW rfl (a22.mono fun k _ e => e ▸ (.inl (rfl))) ?_
              refine RD.take 10 rfl (by kernel_rfl) (by kernel_rfl) (by kernel_rfl) (fun w' s' => .field0 fo26_1 rfl) rfl rfl ?_
              refine RD.all [11] (by kernel_rfl) rfl (RDs.cons rfl ?_ (RDs.nil))
              refine RL.store sh24 rfl rfl rfl hb_2 (by exact Nat.le_of_ble_eq_true rfl) (by rfl) rfl (fun w23 z23 hb_2 a23 => ?_)
              have S := S.upd a23 ge_2
              have hb_3 := hb_3.upd a23 n_2__3.symm
              have hb_4 := hb_4.upd a23 n_2__4.symm
              have szD := Nat.le_trans szD a23.size
              have ho := ho.upd a23 (by omega)
              refine RD.backW rfl (a23.mono fun k _ e => e ▸ (.inl (rfl))) ?_
              exact RD.done (by kernel_rfl) (fun a ka => ⟨(ca, cc), ⟨_, ltc, by have := ltD_b_3; have := szC; omega, by have := ltD_b_4; have := szC; omega, by omega, ho, hb_2, hb_3, hb_4, S⟩, ka.keep (keep_of (by repeat (first | exact trivial | refine And.intro rfl ?_)))⟩)
            obtain ⟨ca, cc⟩ := x_
            obtain ⟨B, q_2, q_3, q_4, q_w, ho, hb_2, hb_3, hb_4, S⟩ := hJ
            obtain ⟨b_C, cap_C, ex_C, f_C, g_C, k_C, m_C, hb_C, l_C⟩ := ho.has (by simp only [List.length_map]; omega)
            have ge_C := Nat.le_trans q_w g_C
            simp only [Value.slice.injEq, true_and] at f_C
            obtain ⟨rfl, rfl⟩ := f_C
            have nb_C_b_2 : b_C ≠ b_2 := by omega
            have nb_C_b_3 : b_C ≠ b_3 := by omega
            have nb_C_b_4 : b_C ≠ b_4 := by omega
            refine RC.seq ?_
            refine RC.region rfl ?_
            refine RL.ev (.field0 fo26_0 rfl) rfl rfl ?_
            refine RL.ev (.load1 sh23 rfl (hb_2.cell rfl)) rfl rfl ?_
            refine RL.ev (.move rfl) rfl rfl ?_
            refine RL.ev (.loadR ((madeN A x).cells) sh73 rfl hb_3.row rfl) rfl rfl ?_
            refine RL.ev (.indexO sl23 rfl rfl (by simp only [List.length_map]; omega)) rfl rfl ?_
            refine RL.store sh73 rfl rfl rfl hb_C (by rw [List.length_append, flat_len (sz := 16) _ (fun r hr => by obtain ⟨z, _, rfl⟩ := List.mem_map.1 hr; rfl), List.length_map]; show _ + 16 ≤ _; omega) (by rfl) rfl (fun w24 z24 hb_C a24 => ?_)
            have S := S.upd a24 ge_C
            have hb_2 := hb_2.upd a24 nb_C_b_2.symm
            have hb_3 := hb_3.upd a24 nb_C_b_3.symm
            have hb_4 := hb_4.upd a24 nb_C_b_4.symm
            rw [Nat.zero_add] at hb_C
            have hb_C := Has.row_set hb_C (fun r hr => by obtain ⟨z, _, rfl⟩ := List.mem_map.1 hr; rfl) (by rw [List.length_map]; omega) rfl
            refine RL.nil (RC.back ?_)
            refine RC.seq ?_
            refine RC.region rfl ?_
            refine RL.ev (.move rfl) rfl rfl ?_
            refine RL.ev (.field0 fo73_1 rfl) rfl rfl ?_
            refine RL.ev (.load1 sh3 rfl (hb_3.cell rfl)) rfl rfl ?_
            refine RL.call rfl ok63 (c_refOf' _ _ (make_isR hok hpos) w24) rfl rfl ?_
            rintro _ w25 ⟨rfl, s26⟩
            have S := S.trans s26
            have hb_2 := hb_2.sub s26
            have hb_3 := hb_3.sub s26
            have hb_4 := hb_4.sub s26
            have hb_C := hb_C.sub s26
            refine RL.ev (.move rfl) rfl rfl ?_
            refine RL.ev (.extract rfl rfl) rfl rfl ?_
            refine RL.ev (.extract rfl rfl) rfl rfl ?_
            refine RL.ev (.assign rfl) rfl rfl ?_
            refine RL.ev (.assign rfl) rfl rfl ?_
            refine RL.nil (RC.back ?_)
            refine RC.seq ?_
            refine RC.region rfl ?_
            refine RL.ev (.loadR ([.slice (some ⟨b_C, 0, none⟩) (A.nodes.map Node.cells).length cc, .slice fa (A.free.length - 1) (A.free.length - 1)]) sh26 rfl hb_2.row rfl) rfl rfl ?_
            refine RL.ev (.move rfl) rfl rfl ?_
            refine RL.ev (.move rfl) rfl rfl ?_
            refine RL.store sh26 rfl rfl rfl hb_4 (by exact Nat.le_of_ble_eq_true rfl) (by rfl) rfl (fun w27 z27 hb_4 a27 => ?_)
            have S := S.upd a27 ge_4
            have hb_2 := hb_2.upd a27 n_2__4
            have hb_3 := hb_3.upd a27 n_3__4
            have hb_C := hb_C.upd a27 nb_C_b_4
            have hb_4 : Has w27 b_4 ([.slice (some ⟨b_C, 0, none⟩) (A.nodes.map Node.cells).length cc, .slice fa (A.free.length - 1) (A.free.length - 1)]) _ := hb_4.now (by kernel_rfl)
            refine RL.ev (.assign rfl) rfl rfl ?_
            refine RL.ev (.assign rfl) rfl rfl ?_
            refine RL.nil (RC.back ?_)
            refine RC.done (rs := [.cell 4 26, .tmp 5, .tmp 6]) (vs := [_, _, _]) rfl rfl ⟨⟨_, rfl, .inr ⟨[.slice (some ⟨b_C, 0, none⟩) (A.nodes.map Node.cells).length cc, .slice fa (A.free.length - 1) (A.free.length - 1)], sh26, hb_4.row, rfl⟩⟩, rfl, rfl, trivial⟩ ?_
            -- end 6
            refine ⟨S, .inr (.inr ⟨hm, hpos, arV (some ⟨b_C, 0, none⟩) fa cc (A.free.length - 1) (makeA A x), ?_, _, _, _, _, rfl, ?_, ?_, fun N hN hI W hW => ⟨?_, ?_, ?_, ?_⟩⟩)⟩
            · show tup [Value.agg _, _, _] = _
              simp only [arV, makeA, List.length_set, List.length_take, List.length_map]
              rw [Nat.min_eq_left (by omega)]
              rfl
            · simpa [makeA] using k_C
            · simp only [makeA, List.length_take]; omega
            · show Sl W _ 16 ((makeA A x).nodes.map Node.cells)
              rw [makeA, List.map_set]
              exact Has.sl (hb_C.step hW (fun e => by have := hN _ e; omega)) (fun r hr => (List.mem_or_eq_of_mem_set hr).elim (fun hr => by obtain ⟨z, _, rfl⟩ := List.mem_map.1 hr; rfl) (fun e => e ▸ rfl))
            · show Sl W _ 1 ((makeA A x).free.map fun x => [i6 x])
              rw [makeA, List.map_take]
              exact ((hI.sub S) W hW).free.take _
            · intro z hz
              rcases List.mem_or_eq_of_mem_set hz with hz | rfl
              · exact hA.nok z hz
              · exact ⟨hx.kind, by unfold I64; show _ ≤ genAt A (lastAt A) ∧ genAt A (lastAt A) ≤ _; omega, hx.n, hx.v, hx.s, hx.kids, hx.pre, hx.suf⟩
            · exact fun z hz => hA.fok z (List.mem_of_mem_take hz)
end Go.Proofs.Ytefakjhfcgjhgaa
