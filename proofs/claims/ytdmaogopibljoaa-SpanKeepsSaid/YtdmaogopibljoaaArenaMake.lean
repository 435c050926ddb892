/-
  New arenas, what is made, what is dropped.
-/
import Derived.Test.YtdmaogopibljoaaArenaGet
set_option linter.unusedVariables false
set_option linter.unusedSimpArgs false
namespace Go.Proofs.Ytdmaogopibljoaa
open Go Go.XL

def ar0 : Ar := ⟨[], []⟩
def arV0 : Value := .agg #[.slice none 0 0, .slice none 0 0]
/-- the first i of the places that are free in a new arena -/
def newFree (n i : Nat) : List Int := (List.range i).map fun (j : Nat) => (n : Int) - 1 - j
def newA (n : Nat) : Ar := ⟨List.replicate n (bareN 0), newFree n n⟩
theorem newFree_succ (n i : Nat) : newFree n (i + 1) = newFree n i ++ [(n : Int) - 1 - i] := by
  simp [newFree, List.range_succ]
theorem newFree_len (n i : Nat) : (newFree n i).length = i := by simp [newFree]

/-- what the new arena reads is new, or was read of the old one -/
def ArI (w w' : World) (na fa : Option Addr) (A : Ar) (na' fa' : Option Addr) (A' : Ar) : Prop :=
  ∀ N : Nat → Prop, (∀ k, N k → k < w.heap.size) → Imm N (fun u => ArR u na fa A) w → Imm N (fun u => ArR u na' fa' A') w'
theorem ArI.now {w w' na fa A na' fa' A'} (h : ArI w w' na fa A na' fa' A') (hA : ArR w na fa A) : ArR w' na' fa' A' :=
  (h (fun _ => False) (fun _ h => h.elim) (fun u hu => hA.sub hu.sub)).now
/-- an arena that is answered -/
def ArO (w w' : World) (na fa : Option Addr) (A : Ar) (v : Value) (A' : Ar) : Prop :=
  ∃ na' fa' nc' fc', v = arV na' fa' nc' fc' A' ∧ A'.nodes.length ≤ nc' ∧ A'.free.length ≤ fc' ∧ ArI w w' na fa A na' fa' A'
/-! ### a free node is made one -/
def x0 (x : Node) : Node := { x with gen := 0 }
theorem x0_ok {x : Node} (h : x.ok) : (x0 x).ok := ⟨h.kind, z64, h.n, h.v, h.s, h.kids, h.pre, h.suf⟩
/-- may a node be made? -/
def mayMake (A : Ar) (x : Node) : Prop := AOk A ∧ 1 ≤ x.kind ∧ x.kind ≤ 100 ∧ well (x0 x) = true
def lastAt (A : Ar) : Int := A.free.getD (A.free.length - 1) 0
def genAt (A : Ar) (p : Int) : Int := (A.nodes.getD p.toNat (bareN 0)).gen
def madeN (A : Ar) (x : Node) : Node := { x with gen := genAt A (lastAt A) }
def makeA (A : Ar) (x : Node) : Ar := ⟨A.nodes.set (lastAt A).toNat (madeN A x), A.free.take (A.free.length - 1)⟩
def makeR (A : Ar) : Int := ofR (lastAt A) (genAt A (lastAt A))
theorem lastAt_get {A : Ar} (h : 0 < A.free.length) : A.free[A.free.length - 1]? = some (lastAt A) := by
  rw [lastAt, List.getD_eq_getElem?_getD, List.getElem?_eq_getElem (by omega)]; rfl
theorem lastAt_in {A : Ar} (hA : AOk A) (h : 0 < A.free.length) : 0 ≤ lastAt A ∧ lastAt A < A.nodes.length := hA.free _ (List.mem_of_getElem? (lastAt_get h))
theorem genAt_get {A : Ar} {p : Int} {y : Node} (h : A.nodes[p.toNat]? = some y) : genAt A p = y.gen := by
  rw [genAt, List.getD_eq_getElem?_getD, h]; rfl
theorem genAt_rng {A : Ar} (hA : AOk A) {p : Int} (h : 0 ≤ p ∧ p < A.nodes.length) : 0 ≤ genAt A p ∧ genAt A p ≤ 1048576 := by
  obtain ⟨y, hy⟩ := getSome (l := A.nodes) (i := p.toNat) (by omega)
  rw [genAt_get hy]
  have := (well_iff y).1 (hA.well y (List.mem_of_getElem? hy))
  omega
theorem make_isR {A : Ar} (hA : AOk A) (h : 0 < A.free.length) : isR (lastAt A) (genAt A (lastAt A)) = true := by
  have h1 := lastAt_in hA h
  have h2 := genAt_rng hA h1
  have := hA.most
  rw [isR_iff]; omega

theorem c_aMake (A : Ar) (na fa : Option Addr) (nc fc : Nat) (x : Node) (hx : x.ok) (w : World) (hA : ArR w na fa A) (hfc : A.free.length ≤ fc) :
    FC Try.prog 43 [arV na fa nc fc A, x.val] w (fun v w' => Sub w w' ∧ (¬ mayMake A x ∧ v = .tuple #[arV0, .int .u64 0, .int .i64 1] ∨ mayMake A x ∧ A.free.length = 0 ∧ v = .tuple #[arV0, .int .u64 0, .int .i64 2] ∨
      mayMake A x ∧ 0 < A.free.length ∧ ∃ av, v = .tuple #[av, .int .u64 (makeR A), .int .i64 0] ∧ ArO w w' na fa A av (makeA A x))) := by
  have hN := hA.nodes
  have hFr := hA.free
  refine FC.intro Try.func43 rfl Try.ntmps43 rfl ?_
  have S := Sub.refl w
  have ek : (x0 x).kind = x.kind := rfl
  refine RC.seq ?_
  refine RC.region rfl ?_
  refine RL.box rfl rfl rfl (fun b_2 w_2 e_2 z_2 hb_2 s_2 => ?_)
  have ge_2 := S.le e_2
  have S := S.trans s_2
  have hb_2 : Has w_2 b_2 ([.slice na A.nodes.length nc, .slice fa A.free.length fc]) _ := hb_2
  refine RL.box rfl rfl rfl (fun b_3 w_3 e_3 z_3 hb_3 s_3 => ?_)
  have ge_3 := S.le e_3
  have n_2__3 := hb_2.ne e_3
  have S := S.trans s_3
  have hb_2 := hb_2.sub s_3
  have hb_3 : Has w_3 b_3 (x.cells) _ := hb_3
  refine RL.alloc ze28 rfl rfl (fun b_4 w_4 e_4 z_4 hb_4 s_4 => ?_)
  have ge_4 := S.le e_4
  have n_2__4 := hb_2.ne e_4
  have n_3__4 := hb_3.ne e_4
  have S := S.trans s_4
  have hb_2 := hb_2.sub s_4
  have hb_3 := hb_3.sub s_4
  refine RL.ev (.assign rfl) rfl rfl ?_
  refine RL.ev (.assign rfl) rfl rfl ?_
  refine RL.nil (RC.back ?_)
  refine RC.seq ?_
  refine RC.region rfl ?_
  refine RL.ev (.field0 fo69_1 rfl) rfl rfl ?_
  refine RL.store sh3 rfl rfl rfl hb_3 (by exact Nat.le_of_ble_eq_true rfl) (by rfl) rfl (fun w1 z1 hb_3 a1 => ?_)
  have S := S.upd a1 ge_3
  have hb_2 := hb_2.upd a1 n_2__3
  have hb_4 := hb_4.upd a1 n_3__4.symm
  have hb_3 : Has w1 b_3 ((x0 x).cells) _ := hb_3
  refine RL.nil (RC.back ?_)
  refine RC.seq ?_
  refine RC.block ?_
  refine RC.seq ?_
  refine RC.region rfl ?_
  refine RL.ev (.loadR ([.slice na A.nodes.length nc, .slice fa A.free.length fc]) sh28 rfl hb_2.row rfl) rfl rfl ?_
  refine RL.call rfl ok39 (c_aRight A na fa nc fc w1 (hA.sub S)) rfl rfl ?_
  rintro _ w2 ⟨rfl, s3⟩
  have S := S.trans s3
  have hb_2 := hb_2.sub s3
  have hb_3 := hb_3.sub s3
  have hb_4 := hb_4.sub s3
  refine RL.ev (.not rfl) rfl rfl ?_
  refine RL.ev (.move rfl) rfl rfl ?_
  refine RL.splitB 16 rfl (fun h4 => ?_) (fun h4 => ?_)
  ·
    have q1 : ¬ AOk A := (fun h => by have h2 := h4; rw [aokB_yes h] at h2; cases h2)
    refine RL.off rfl rfl ?_
    refine RL.off rfl rfl ?_
    refine RL.off rfl rfl ?_
    refine RL.ev (.pick_t rfl rfl) rfl rfl ?_
    refine RL.ev (.move rfl) rfl rfl ?_
    refine RL.off rfl rfl ?_
    refine RL.off rfl rfl ?_
    refine RL.off rfl rfl ?_
    refine RL.ev (.pick_t rfl rfl) rfl rfl ?_
    refine RL.ev (.move rfl) rfl rfl ?_
    refine RL.off rfl rfl ?_
    refine RL.off rfl rfl ?_
    refine RL.off rfl rfl ?_
    refine RL.ev (.pick_t rfl rfl) rfl rfl ?_
    refine RL.ev (.assign rfl) rfl rfl ?_
    refine RL.nil (RC.back ?_)
    refine RC.cond_t rfl ?_
    refine RC.seq ?_
    refine RC.region rfl ?_
    refine RL.ev (.buildS ze28 pl28 rfl rfl) rfl rfl ?_
    refine RL.store sh28 rfl rfl rfl hb_4 (by exact Nat.le_of_ble_eq_true rfl) (by rfl) rfl (fun w5 z5 hb_4 a5 => ?_)
    have S := S.upd a5 ge_4
    have hb_2 := hb_2.upd a5 n_2__4
    have hb_3 := hb_3.upd a5 n_3__4
    have hb_4 : Has w5 b_4 ([.slice none 0 0, .slice none 0 0]) _ := hb_4.now (by kernel_rfl)
    refine RL.ev (.assign rfl) rfl rfl ?_
    refine RL.ev (.assign rfl) rfl rfl ?_
    refine RL.nil (RC.back ?_)
    refine RC.done (rs := [.cell 4 28, .tmp 5, .tmp 6]) (vs := [_, _, _]) rfl rfl ⟨⟨_, rfl, .inr ⟨[.slice none 0 0, .slice none 0 0], sh28, hb_4.row, rfl⟩⟩, rfl, rfl, trivial⟩ ?_
    -- end 1
    exact ⟨S, .inl ⟨fun h => q1 h.1, rfl⟩⟩
  ·
    have hok : AOk A := (aokB_iff A).1 (by simpa using h4)
    have hmost := hok.most
    have hone := hok.one
    have hfit := hok.fit
    refine RL.ev (.field0 fo69_0 rfl) rfl rfl ?_
    refine RL.ev (.load1 sh3 rfl (hb_3.cell rfl)) rfl rfl ?_
    refine RL.ev (.bin rfl rfl rfl) rfl rfl ?_
    refine RL.ev (.pick_f rfl rfl) rfl rfl ?_
    refine RL.ev (.move rfl) rfl rfl ?_
    refine RL.split 21 rfl (fun h6 => ?_) (fun h6 => ?_)
    ·
      refine RL.off rfl rfl ?_
      refine RL.off rfl rfl ?_
      refine RL.off rfl rfl ?_
      refine RL.ev (.pick_t rfl rfl) rfl rfl ?_
      refine RL.ev (.move rfl) rfl rfl ?_
      refine RL.off rfl rfl ?_
      refine RL.off rfl rfl ?_
      refine RL.off rfl rfl ?_
      refine RL.ev (.pick_t rfl rfl) rfl rfl ?_
      refine RL.ev (.assign rfl) rfl rfl ?_
      refine RL.nil (RC.back ?_)
      refine RC.cond_t rfl ?_
      refine RC.seq ?_
      refine RC.region rfl ?_
      refine RL.ev (.buildS ze28 pl28 rfl rfl) rfl rfl ?_
      refine RL.store sh28 rfl rfl rfl hb_4 (by exact Nat.le_of_ble_eq_true rfl) (by rfl) rfl (fun w7 z7 hb_4 a7 => ?_)
      have S := S.upd a7 ge_4
      have hb_2 := hb_2.upd a7 n_2__4
      have hb_3 := hb_3.upd a7 n_3__4
      have hb_4 : Has w7 b_4 ([.slice none 0 0, .slice none 0 0]) _ := hb_4.now (by kernel_rfl)
      refine RL.ev (.assign rfl) rfl rfl ?_
      refine RL.ev (.assign rfl) rfl rfl ?_
      refine RL.nil (RC.back ?_)
      refine RC.done (rs := [.cell 4 28, .tmp 5, .tmp 6]) (vs := [_, _, _]) rfl rfl ⟨⟨_, rfl, .inr ⟨[.slice none 0 0, .slice none 0 0], sh28, hb_4.row, rfl⟩⟩, rfl, rfl, trivial⟩ ?_
      -- end 2
      exact ⟨S, .inl ⟨fun h => by have := h.2.1; omega, rfl⟩⟩
    ·
      refine RL.ev (.field0 fo69_0 rfl) rfl rfl ?_
      refine RL.ev (.load1 sh3 rfl (hb_3.cell rfl)) rfl rfl ?_
      refine RL.ev (.bin rfl rfl rfl) rfl rfl ?_
      refine RL.ev (.pick_f rfl rfl) rfl rfl ?_
      refine RL.ev (.move rfl) rfl rfl ?_
      refine RL.split 26 rfl (fun h8 => ?_) (fun h8 => ?_)
      ·
        refine RL.off rfl rfl ?_
        refine RL.off rfl rfl ?_
        refine RL.off rfl rfl ?_
        refine RL.ev (.pick_t rfl rfl) rfl rfl ?_
        refine RL.ev (.assign rfl) rfl rfl ?_
        refine RL.nil (RC.back ?_)
        refine RC.cond_t rfl ?_
        refine RC.seq ?_
        refine RC.region rfl ?_
        refine RL.ev (.buildS ze28 pl28 rfl rfl) rfl rfl ?_
        refine RL.store sh28 rfl rfl rfl hb_4 (by exact Nat.le_of_ble_eq_true rfl) (by rfl) rfl (fun w9 z9 hb_4 a9 => ?_)
        have S := S.upd a9 ge_4
        have hb_2 := hb_2.upd a9 n_2__4
        have hb_3 := hb_3.upd a9 n_3__4
        have hb_4 : Has w9 b_4 ([.slice none 0 0, .slice none 0 0]) _ := hb_4.now (by kernel_rfl)
        refine RL.ev (.assign rfl) rfl rfl ?_
        refine RL.ev (.assign rfl) rfl rfl ?_
        refine RL.nil (RC.back ?_)
        refine RC.done (rs := [.cell 4 28, .tmp 5, .tmp 6]) (vs := [_, _, _]) rfl rfl ⟨⟨_, rfl, .inr ⟨[.slice none 0 0, .slice none 0 0], sh28, hb_4.row, rfl⟩⟩, rfl, rfl, trivial⟩ ?_
        -- end 3
        exact ⟨S, .inl ⟨fun h => by have := h.2.2.1; omega, rfl⟩⟩
      ·
        refine RL.ev (.loadR ((x0 x).cells) sh69 rfl hb_3.row rfl) rfl rfl ?_
        refine RL.call rfl ok46 (c_well (x0 x) (x0_ok hx) w2) rfl rfl ?_
        rintro _ w10 ⟨rfl, s11⟩
        have S := S.trans s11
        have hb_2 := hb_2.sub s11
        have hb_3 := hb_3.sub s11
        have hb_4 := hb_4.sub s11
        refine RL.ev (.not rfl) rfl rfl ?_
        refine RL.ev (.pick_f rfl rfl) rfl rfl ?_
        refine RL.ev (.assign rfl) rfl rfl ?_
        refine RL.nil (RC.back ?_)
        refine RC.cond rfl (fun h12 => ?_) (fun h12 => ?_)
        ·
          have q2 := h12
          refine RC.seq ?_
          refine RC.region rfl ?_
          refine RL.ev (.buildS ze28 pl28 rfl rfl) rfl rfl ?_
          refine RL.store sh28 rfl rfl rfl hb_4 (by exact Nat.le_of_ble_eq_true rfl) (by rfl) rfl (fun w13 z13 hb_4 a13 => ?_)
          have S := S.upd a13 ge_4
          have hb_2 := hb_2.upd a13 n_2__4
          have hb_3 := hb_3.upd a13 n_3__4
          have hb_4 : Has w13 b_4 ([.slice none 0 0, .slice none 0 0]) _ := hb_4.now (by kernel_rfl)
          refine RL.ev (.assign rfl) rfl rfl ?_
          refine RL.ev (.assign rfl) rfl rfl ?_
          refine RL.nil (RC.back ?_)
          refine RC.done (rs := [.cell 4 28, .tmp 5, .tmp 6]) (vs := [_, _, _]) rfl rfl ⟨⟨_, rfl, .inr ⟨[.slice none 0 0, .slice none 0 0], sh28, hb_4.row, rfl⟩⟩, rfl, rfl, trivial⟩ ?_
          -- end 4
          exact ⟨S, .inl ⟨fun h => (by rw [h.2.2.2] at q2; cases q2), rfl⟩⟩
        ·
          have hm : mayMake A x := ⟨hok, by omega, by omega, by simpa using h12⟩
          refine RC.seq ?_
          refine RC.region rfl ?_
          refine RL.ev (.field0 fo28_1 rfl) rfl rfl ?_
          refine RL.ev (.load1 sh26 rfl (hb_2.cell rfl)) rfl rfl ?_
          refine RL.ev (.len sl26 rfl) rfl rfl ?_
          refine RL.ev (.bin rfl rfl rfl) rfl rfl ?_
          refine RL.ev (.assign rfl) rfl rfl ?_
          refine RL.nil (RC.back ?_)
          refine RC.cond_dec rfl (fun h14 => ?_) (fun h14 => ?_)
          ·
            refine RC.seq ?_
            refine RC.region rfl ?_
            refine RL.ev (.buildS ze28 pl28 rfl rfl) rfl rfl ?_
            refine RL.store sh28 rfl rfl rfl hb_4 (by exact Nat.le_of_ble_eq_true rfl) (by rfl) rfl (fun w15 z15 hb_4 a15 => ?_)
            have S := S.upd a15 ge_4
            have hb_2 := hb_2.upd a15 n_2__4
            have hb_3 := hb_3.upd a15 n_3__4
            have hb_4 : Has w15 b_4 ([.slice none 0 0, .slice none 0 0]) _ := hb_4.now (by kernel_rfl)
            refine RL.ev (.assign rfl) rfl rfl ?_
            refine RL.ev (.assign rfl) rfl rfl ?_
            refine RL.nil (RC.back ?_)
            refine RC.done (rs := [.cell 4 28, .tmp 5, .tmp 6]) (vs := [_, _, _]) rfl rfl ⟨⟨_, rfl, .inr ⟨[.slice none 0 0, .slice none 0 0], sh28, hb_4.row, rfl⟩⟩, rfl, rfl, trivial⟩ ?_
            -- end 5
            exact ⟨S, .inr (.inl ⟨hm, by omega, rfl⟩)⟩
          ·
            have hpos : 0 < A.free.length := (by omega)
            have hat := lastAt_in hok hpos
            have hgr := genAt_rng hok hat
            obtain ⟨y, hy⟩ := getSome (l := A.nodes) (i := (lastAt A).toNat) (by omega)
            have hgy := genAt_get hy
            refine RC.skip (RC.back ?_)
            refine RC.seq ?_
            refine RC.region rfl ?_
            refine RL.ev (.field0 fo28_1 rfl) rfl rfl ?_
            refine RL.ev (.load1 sh26 rfl (hb_2.cell rfl)) rfl rfl ?_
            refine RL.ev (.len sl26 rfl) rfl rfl ?_
            refine RL.ev (.as (.bin rfl rfl rfl) (wi64 (y := ((A.free.length - 1 : Nat) : Int)) (by omega) (by omega))) rfl rfl ?_
            refine RL.ev (.assign rfl) rfl rfl ?_
            refine RL.nil (RC.back ?_)
            refine RC.seq ?_
            refine RC.region rfl ?_
            refine RL.ev (.field0 fo28_1 rfl) rfl rfl ?_
            refine RL.ev (.load1 sh26 rfl (hb_2.cell rfl)) rfl rfl ?_
            refine RL.ev (.move rfl) rfl rfl ?_
            refine RL.ev (.indexS sl26 rfl rfl (by omega) (hFr.is (i := 0) (by simp only [List.length_map]; omega))) rfl rfl ?_
            refine RL.ev (.as (v' := .int .i64 (lastAt A)) (.load1 sh3 rfl ((hFr.sub S).one (enc := i6) (i := A.free.length - 1) (x := lastAt A) (by exact lastAt_get hpos))) (by rfl)) rfl rfl ?_
            refine RL.ev (.assign rfl) rfl rfl ?_
            refine RL.nil (RC.back ?_)
            refine RC.seq ?_
            refine RC.region rfl ?_
            refine RL.ev (.field0 fo28_0 rfl) rfl rfl ?_
            refine RL.ev (.load1 sh25 rfl (hb_2.cell rfl)) rfl rfl ?_
            refine RL.ev (.move rfl) rfl rfl ?_
            refine RL.ev (.indexS sl25 rfl rfl (by omega) (hN.is (i := 0) (by simp only [List.length_map]; omega))) rfl rfl ?_
            refine RL.ev (.fieldA fo69_1 rfl) rfl rfl ?_
            refine RL.ev (.as (v' := .int .i64 (genAt A (lastAt A))) (.load1 sh3 rfl ((hN.sub S).cell (enc := Node.cells) (j := 1) hy rfl)) (by rw [hgy])) rfl rfl ?_
            refine RL.ev (.field0 fo69_1 rfl) rfl rfl ?_
            refine RL.store sh3 rfl rfl rfl hb_3 (by exact Nat.le_of_ble_eq_true rfl) (by rfl) rfl (fun w16 z16 hb_3 a16 => ?_)
            have S := S.upd a16 ge_3
            have hb_2 := hb_2.upd a16 n_2__3
            have hb_4 := hb_4.upd a16 n_3__4.symm
            have hb_3 : Has w16 b_3 ((madeN A x).cells) _ := hb_3
            refine RL.nil (RC.back ?_)
            refine RC.cutx (α := Option Addr × Nat) (fun x_ => [(2, .pointer (some ⟨b_2, 0, none⟩)), (3, .pointer (some ⟨b_3, 0, none⟩)), (4, .pointer (some ⟨b_4, 0, none⟩)), (8, .int .i64 (lastAt A))]) (fun x_ w17 => ∃ B, b_2 < B ∧ b_3 < B ∧ b_4 < B ∧ w.heap.size ≤ B ∧ Ows B w17 69 16 (.slice x_.1 (A.nodes.map Node.cells).length x_.2) (A.nodes.map Node.cells) ∧ Has w17 b_2 [.slice x_.1 (A.nodes.map Node.cells).length x_.2, .slice fa (A.free.length - 1) (A.free.length - 1)] 28 ∧ Has w17 b_3 (madeN A x).cells 69 ∧ Has w17 b_4 [.slice none 0 0, .slice none 0 0] 28 ∧ Sub w w17) ?_ (fun x_ w17 hJ => ?_)
            ·
              refine RC.drawD (fun k => k = b_2) [9, 11] w16.heap.size 12 rfl rfl mxo (fun w18 s19 => ?_)
              have hNN : ∀ k, ((k = b_2) ∨ w16.heap.size ≤ k) → w.heap.size ≤ k := fun k e => e.elim (fun e => e ▸ ge_2) (fun e => Nat.le_trans S.size e)
              have ent_S := S.size
              have hN0 : ∀ k, w16.heap.size ≤ k → w.heap.size ≤ k := fun k e => Nat.le_trans S.size e
              have ltD_b_2 := hb_2.lt
              have ltD_b_3 := hb_3.lt
              have ltD_b_4 := hb_4.lt
              have szD := Nat.le_refl w16.heap.size
              have S := S.trans s19
              have hb_2 := hb_2.sub s19
              have hb_3 := hb_3.sub s19
              have hb_4 := hb_4.sub s19
              have szD := Nat.le_trans szD s19.size
              refine RD.take 0 rfl (by kernel_rfl) (by kernel_rfl) (by kernel_rfl) (fun w' s' => .field0 fo28_0 rfl) rfl rfl ?_
              refine RD.takeL 1 rfl (by kernel_rfl) (by kernel_rfl) (by kernel_rfl) (by kernel_rfl) (fun w' s' => .load1 sh25 rfl ((hb_2.step s' (fun e => Nat.not_le.2 ltD_b_2 e)).cell rfl)) rfl rfl ?_
              refine RD.take 3 rfl (by kernel_rfl) (by kernel_rfl) (by kernel_rfl) (fun w' s' => .field0 fo28_1 rfl) rfl rfl ?_
              refine RD.takeL 4 rfl (by kernel_rfl) (by kernel_rfl) (by kernel_rfl) (by kernel_rfl) (fun w' s' => .load1 sh26 rfl ((hb_2.step s' (fun e => Nat.not_le.2 ltD_b_2 e)).cell rfl)) rfl rfl ?_
              refine RD.take 5 rfl (by kernel_rfl) (by kernel_rfl) (by kernel_rfl) (fun w' s' => .move rfl) rfl rfl ?_
              refine RD.take 6 rfl (by kernel_rfl) (by kernel_rfl) (by kernel_rfl) (fun w' s' => .move rfl) rfl rfl ?_
              refine RD.take 7 rfl (by kernel_rfl) (by kernel_rfl) (by kernel_rfl) (fun w' s' => .sliceHM sl26 rfl rfl rfl (by omega)) rfl rfl ?_
              refine RD.all [2] (by kernel_rfl) rfl (RDs.cons rfl ?_ (RDs.nil))
              refine RL.call rfl ok50 (c_cloneNodes A.nodes na nc w18 (hN.sub S) (by omega)) rfl rfl ?_
              rintro u w20 ⟨ho, s21⟩
              have ltc := hb_2.lt
              have szC := szD
              have S := S.trans s21
              have hb_2 := hb_2.sub s21
              have hb_3 := hb_3.sub s21
              have hb_4 := hb_4.sub s21
              have szD := Nat.le_trans szD s21.size
              obtain ⟨ca, cc, rfl, kc⟩ := ho.form
              refine RD.back s21.agr ?_
              refine RD.take 8 rfl (by kernel_rfl) (by kernel_rfl) (by kernel_rfl) (fun w' s' => .field0 fo28_0 rfl) rfl rfl ?_
              refine RD.all [9] (by kernel_rfl) rfl (RDs.cons rfl ?_ (RDs.nil))
              refine RL.store sh25 rfl rfl rfl hb_2 (by exact Nat.le_of_ble_eq_true rfl) (by rfl) rfl (fun w22 z22 hb_2 a22 => ?_)
              have S := S.upd a22 ge_2
              have hb_3 := hb_3.upd a22 n_2__3.symm
              have hb_4 := hb_4.upd a22 n_2__4.symm
              have szD := Nat.le_trans szD a22.size
              have ho := ho.upd a22 (by omega)
              refine RD.backW rfl (a22.mono fun k _ e => e ▸ (.inl (rfl))) ?_
              refine RD.take 10 rfl (by kernel_rfl) (by kernel_rfl) (by kernel_rfl) (fun w' s' => .field0 fo28_1 rfl) rfl rfl ?_
              refine RD.all [11] (by kernel_rfl) rfl (RDs.cons rfl ?_ (RDs.nil))
              refine RL.store sh26 rfl rfl rfl hb_2 (by exact Nat.le_of_ble_eq_true rfl) (by rfl) rfl (fun w23 z23 hb_2 a23 => ?_)
              have S := S.upd a23 ge_2
              have hb_3 := hb_3.upd a23 n_2__3.symm
              have hb_4 := hb_4.upd a23 n_2__4.symm
              have szD := Nat.le_trans szD a23.size
              have ho := ho.upd a23 (by omega)
              refine RD.backW rfl (a23.mono fun k _ e => e ▸ (.inl (rfl))) ?_
              exact RD.done (by kernel_rfl) (fun a ka => ⟨(ca, cc), ⟨_, ltc, by have := ltD_b_3; have := szC; omega, by have := ltD_b_4; have := szC; omega, by omega, ho, hb_2, hb_3, hb_4, S⟩, ka.keep (keep_of (by repeat (first | exact trivial | refine And.intro rfl ?_)))⟩)
            obtain ⟨ca, cc⟩ := x_
            obtain ⟨B, q_2, q_3, q_4, q_w, ho, hb_2, hb_3, hb_4, S⟩ := hJ
            obtain ⟨b_C, cap_C, ex_C, f_C, g_C, k_C, m_C, hb_C, l_C⟩ := ho.has (by simp only [List.length_map]; omega)
            have ge_C := Nat.le_trans q_w g_C
            simp only [Value.slice.injEq, true_and] at f_C
            obtain ⟨rfl, rfl⟩ := f_C
            have nb_C_b_2 : b_C ≠ b_2 := by omega
            have nb_C_b_3 : b_C ≠ b_3 := by omega
            have nb_C_b_4 : b_C ≠ b_4 := by omega
            refine RC.seq ?_
            refine RC.region rfl ?_
            refine RL.ev (.field0 fo28_0 rfl) rfl rfl ?_
            refine RL.ev (.load1 sh25 rfl (hb_2.cell rfl)) rfl rfl ?_
            refine RL.ev (.move rfl) rfl rfl ?_
            refine RL.ev (.loadR ((madeN A x).cells) sh69 rfl hb_3.row rfl) rfl rfl ?_
            refine RL.ev (.indexO sl25 rfl rfl (by simp only [List.length_map]; omega)) rfl rfl ?_
            refine RL.store sh69 rfl rfl rfl hb_C (by rw [List.length_append, flat_len (sz := 16) _ (fun r hr => by obtain ⟨z, _, rfl⟩ := List.mem_map.1 hr; rfl), List.length_map]; show _ + 16 ≤ _; omega) (by rfl) rfl (fun w24 z24 hb_C a24 => ?_)
            have S := S.upd a24 ge_C
            have hb_2 := hb_2.upd a24 nb_C_b_2.symm
            have hb_3 := hb_3.upd a24 nb_C_b_3.symm
            have hb_4 := hb_4.upd a24 nb_C_b_4.symm
            rw [Nat.zero_add] at hb_C
            have hb_C := Has.row_set hb_C (fun r hr => by obtain ⟨z, _, rfl⟩ := List.mem_map.1 hr; rfl) (by rw [List.length_map]; omega) rfl
            refine RL.nil (RC.back ?_)
            refine RC.seq ?_
            refine RC.region rfl ?_
            refine RL.ev (.move rfl) rfl rfl ?_
            refine RL.ev (.field0 fo69_1 rfl) rfl rfl ?_
            refine RL.ev (.load1 sh3 rfl (hb_3.cell rfl)) rfl rfl ?_
            refine RL.call rfl ok51 (c_refOf' _ _ (make_isR hok hpos) w24) rfl rfl ?_
            rintro _ w25 ⟨rfl, s26⟩
            have S := S.trans s26
            have hb_2 := hb_2.sub s26
            have hb_3 := hb_3.sub s26
            have hb_4 := hb_4.sub s26
            have hb_C := hb_C.sub s26
            refine RL.ev (.move rfl) rfl rfl ?_
            refine RL.ev (.extract rfl rfl) rfl rfl ?_
            refine RL.ev (.extract rfl rfl) rfl rfl ?_
            refine RL.ev (.assign rfl) rfl rfl ?_
            refine RL.ev (.assign rfl) rfl rfl ?_
            refine RL.nil (RC.back ?_)
            refine RC.seq ?_
            refine RC.region rfl ?_
            refine RL.ev (.loadR ([.slice (some ⟨b_C, 0, none⟩) (A.nodes.map Node.cells).length cc, .slice fa (A.free.length - 1) (A.free.length - 1)]) sh28 rfl hb_2.row rfl) rfl rfl ?_
            refine RL.ev (.move rfl) rfl rfl ?_
            refine RL.ev (.move rfl) rfl rfl ?_
            refine RL.store sh28 rfl rfl rfl hb_4 (by exact Nat.le_of_ble_eq_true rfl) (by rfl) rfl (fun w27 z27 hb_4 a27 => ?_)
            have S := S.upd a27 ge_4
            have hb_2 := hb_2.upd a27 n_2__4
            have hb_3 := hb_3.upd a27 n_3__4
            have hb_C := hb_C.upd a27 nb_C_b_4
            have hb_4 : Has w27 b_4 ([.slice (some ⟨b_C, 0, none⟩) (A.nodes.map Node.cells).length cc, .slice fa (A.free.length - 1) (A.free.length - 1)]) _ := hb_4.now (by kernel_rfl)
            refine RL.ev (.assign rfl) rfl rfl ?_
            refine RL.ev (.assign rfl) rfl rfl ?_
            refine RL.nil (RC.back ?_)
            refine RC.done (rs := [.cell 4 28, .tmp 5, .tmp 6]) (vs := [_, _, _]) rfl rfl ⟨⟨_, rfl, .inr ⟨[.slice (some ⟨b_C, 0, none⟩) (A.nodes.map Node.cells).length cc, .slice fa (A.free.length - 1) (A.free.length - 1)], sh28, hb_4.row, rfl⟩⟩, rfl, rfl, trivial⟩ ?_
            -- end 6
            refine ⟨S, .inr (.inr ⟨hm, hpos, arV (some ⟨b_C, 0, none⟩) fa cc (A.free.length - 1) (makeA A x), ?_, _, _, _, _, rfl, ?_, ?_, fun N hN hI W hW => ⟨?_, ?_, ?_, ?_⟩⟩)⟩
            · show tup [Value.agg _, _, _] = _
              simp only [arV, makeA, List.length_set, List.length_take, List.length_map]
              rw [Nat.min_eq_left (by omega)]
              rfl
            · simpa [makeA] using k_C
            · simp only [makeA, List.length_take]; omega
            · show Sl W _ 16 ((makeA A x).nodes.map Node.cells)
              rw [makeA, List.map_set]
              exact Has.sl (hb_C.step hW (fun e => by have := hN _ e; omega)) (fun r hr => (List.mem_or_eq_of_mem_set hr).elim (fun hr => by obtain ⟨z, _, rfl⟩ := List.mem_map.1 hr; rfl) (fun e => e ▸ rfl))
            · show Sl W _ 1 ((makeA A x).free.map fun x => [i6 x])
              rw [makeA, List.map_take]
              exact ((hI.sub S) W hW).free.take _
            · intro z hz
              rcases List.mem_or_eq_of_mem_set hz with hz | rfl
              · exact hA.nok z hz
              · exact ⟨hx.kind, by unfold I64; show _ ≤ genAt A (lastAt A) ∧ genAt A (lastAt A) ≤ _; omega, hx.n, hx.v, hx.s, hx.kids, hx.pre, hx.suf⟩
            · exact fun z hz => hA.fok z (List.mem_of_mem_take hz)
end Go.Proofs.Ytdmaogopibljoaa
