/-
  Which references are maps', walked.
-/
import Derived.Test.YtdmaogopibljoaaTreapMayP
set_option linter.unusedVariables false
set_option linter.unusedSimpArgs false
namespace Go.Proofs.Ytdmaogopibljoaa
open Go Go.XL

def frC (na fa : Option Addr) (nc fc : Nat) (A : Ar) (bad : Int) : List Value := [.slice na A.nodes.length nc, .slice fa A.free.length fc, .int .i64 bad]
def bare1 (y : Node) (a b : Int) : Node := ⟨y.kind, y.gen, y.n, y.v, y.s, a, b, 0, 0, 0, 0, 0, 0, 0, 0, 0⟩
theorem bare1_iff {y : Node} (h : y.kind = 1) : bare1 y y.k0 y.k1 = y ↔ tBare y = y := by
  unfold bare1 tBare tNode; rw [h]
theorem row_pre {w : World} {b : Nat} {xs ys : List Value} {e : TypeId} (h : Has w b (xs ++ ys) e) : Row w ⟨b, 0, none⟩ xs := fun i v hv => h.row i v (by rw [List.getElem?_append_left (lt_of_get hv)]; exact hv)
def frA (na fa : Option Addr) (nc fc : Nat) (A : Ar) : List Value := [.slice na A.nodes.length nc, .slice fa A.free.length fc]
set_option maxHeartbeats 4000000 in
theorem c_may (A : Ar) (na fa : Option Addr) (nc fc : Nat) (bad : Int) (bf : Nat) : ∀ (k : Nat) (r : Int) (b : Bnd) (left : Int) (w : World), U64 r → 0 ≤ left → left < k → left ≤ 200 → Has w bf (frC na fa nc fc A bad) 80 → ArR w na fa A →
    FC Try.prog 40 [.pointer (some ⟨bf, 0, none⟩), .int .u64 r, .agg b.cells.toArray, .int .i64 left] w (Val (.int .i64 (mayF A k r b left)) w) := by
  intro k
  induction k with
  | zero => intro r b left w _ h1 h2; omega
  | succ k ih =>
  intro r b left w hr hl0 hlk hl hbf hA
  obtain ⟨y, e, hgv, hgs, hgn⟩ := getV_form2 A r
  refine FC.intro Try.func40 rfl Try.ntmps40 rfl ?_
  have S := Sub.refl w
  refine RC.seq ?_
  refine RC.region rfl ?_
  refine RL.box rfl rfl rfl (fun b_6 w_6 e_6 z_6 hb_6 s_6 => ?_)
  have ge_6 := S.le e_6
  have nf__6 := hbf.ne e_6
  have S := S.trans s_6
  have hbf := hbf.sub s_6
  have hb_6 : Has w_6 b_6 (b.cells) _ := hb_6
  refine RL.ev (.assign rfl) rfl rfl ?_
  refine RL.nil (RC.back ?_)
  refine RC.seq ?_
  refine RC.seq ?_
  refine RC.region rfl ?_
  refine RL.ev (.move rfl) rfl rfl ?_
  refine RL.ev (.bin rfl rfl rfl) rfl rfl ?_
  refine RL.nil (RC.back ?_)
  refine RC.cond_dec rfl (fun h1 => ?_) (fun h1 => ?_)
  ·
    have hres : mayF A (k + 1) r b left = 0 := (by rw [h1, mayF_0])
    refine RC.seq ?_
    refine RC.region rfl ?_
    refine RL.ev (.assign rfl) rfl rfl ?_
    refine RL.nil (RC.back ?_)
    refine RC.done (rs := [.tmp 8]) (vs := [_]) rfl rfl ⟨rfl, trivial⟩ ?_
    -- end 1
    exact ⟨congrArg (Value.int .i64) hres.symm, S⟩
  ·
    have hr0 := h1
    refine RC.skip (RC.back ?_)
    refine RC.seq ?_
    refine RC.region rfl ?_
    refine RL.ev (.move rfl) rfl rfl ?_
    refine RL.ev (.nilCheck rfl) rfl rfl ?_
    refine RL.ev (.field0 fo80_0 rfl) rfl rfl ?_
    refine RL.ev (.loadR ([.slice na A.nodes.length nc, .slice fa A.free.length fc]) sh28 rfl (row_pre (xs := frA na fa nc fc A) (ys := [.int .i64 bad]) hbf) rfl) rfl rfl ?_
    refine RL.ev (.move rfl) rfl rfl ?_
    refine RL.call rfl ok34 (c_aGet A na fa nc fc r hr w_6 (hA.sub S)) rfl rfl ?_
    rintro _ w2 ⟨rfl, s3⟩
    have S := S.trans s3
    have hbf := hbf.sub s3
    have hb_6 := hb_6.sub s3
    refine RL.ev (.as (v' := .tuple #[y.val, .int .i64 e]) (.move rfl) (by rw [hgv])) rfl rfl ?_
    refine RL.ev (.extract rfl rfl) rfl rfl ?_
    refine RL.ev (.extract rfl rfl) rfl rfl ?_
    refine RL.alloc ze69 rfl rfl (fun b_9 w_9 e_9 z_9 hb_9 s_9 => ?_)
    have ge_9 := S.le e_9
    have nf__9 := hbf.ne e_9
    have n_6__9 := hb_6.ne e_9
    have S := S.trans s_9
    have hbf := hbf.sub s_9
    have hb_6 := hb_6.sub s_9
    refine RL.store sh69 rfl rfl rfl hb_9 (by exact Nat.le_of_ble_eq_true rfl) (by rfl) rfl (fun w4 z4 hb_9 a4 => ?_)
    have S := S.upd a4 ge_9
    have hbf := hbf.upd a4 nf__9
    have hb_6 := hb_6.upd a4 n_6__9
    have hb_9 : Has w4 b_9 (y.cells) _ := hb_9.now (by kernel_rfl)
    refine RL.ev (.assign rfl) rfl rfl ?_
    refine RL.nil (RC.back ?_)
    refine RC.cutx (α := Unit) (fun _ => [(0, .pointer (some ⟨bf, 0, none⟩)), (3, .int .i64 left), (6, .pointer (some ⟨b_6, 0, none⟩)), (9, .pointer (some ⟨b_9, 0, none⟩))]) (fun _ w5 => getA A r = some y ∧ (¬ (left = 0 ∨ ¬ y.kind = 1 ∨ b.bad y.n)) ∧ Has w5 bf (frC na fa nc fc A bad) 80 ∧ Has w5 b_6 b.cells 91 ∧ Has w5 b_9 y.cells 69 ∧ Sub w w5) ?_ (fun _ w5 hJ => ?_)
    ·
      refine RC.seq ?_
      refine RC.region rfl ?_
      refine RL.ev (.move rfl) rfl rfl ?_
      refine RL.ev (.bin rfl rfl rfl) rfl rfl ?_
      refine RL.ev (.move rfl) rfl rfl ?_
      refine RL.split 30 rfl (fun h6 => ?_) (fun h6 => ?_)
      ·
        have hres : mayF A (k + 1) r b left = -1 := (by cases hg : getA A r with | none => exact mayF_none hr0 hg | some x => exact absurd (hgs x hg).2 h6)
        refine RL.off rfl rfl ?_
        refine RL.off rfl rfl ?_
        refine RL.ev (.pick_t rfl rfl) rfl rfl ?_
        refine RL.ev (.move rfl) rfl rfl ?_
        refine RL.off rfl rfl ?_
        refine RL.off rfl rfl ?_
        refine RL.off rfl rfl ?_
        refine RL.ev (.pick_t rfl rfl) rfl rfl ?_
        refine RL.ev (.move rfl) rfl rfl ?_
        refine RL.off rfl rfl ?_
        refine RL.off rfl rfl ?_
        refine RL.off rfl rfl ?_
        refine RL.off rfl rfl ?_
        refine RL.off rfl rfl ?_
        refine RL.off rfl rfl ?_
        refine RL.off rfl rfl ?_
        refine RL.off rfl rfl ?_
        refine RL.off rfl rfl ?_
        refine RL.ev (.pick_t rfl rfl) rfl rfl ?_
        refine RL.ev (.move rfl) rfl rfl ?_
        refine RL.off rfl rfl ?_
        refine RL.off rfl rfl ?_
        refine RL.off rfl rfl ?_
        refine RL.off rfl rfl ?_
        refine RL.off rfl rfl ?_
        refine RL.off rfl rfl ?_
        refine RL.off rfl rfl ?_
        refine RL.off rfl rfl ?_
        refine RL.off rfl rfl ?_
        refine RL.ev (.pick_t rfl rfl) rfl rfl ?_
        refine RL.ev (.move rfl) rfl rfl ?_
        refine RL.off rfl rfl ?_
        refine RL.off rfl rfl ?_
        refine RL.off rfl rfl ?_
        refine RL.off rfl rfl ?_
        refine RL.off rfl rfl ?_
        refine RL.off rfl rfl ?_
        refine RL.off rfl rfl ?_
        refine RL.off rfl rfl ?_
        refine RL.off rfl rfl ?_
        refine RL.off rfl rfl ?_
        refine RL.ev (.pick_t rfl rfl) rfl rfl ?_
        refine RL.nil (RC.back ?_)
        refine RC.cond_t rfl ?_
        refine RC.seq ?_
        refine RC.region rfl ?_
        refine RL.ev (.assign rfl) rfl rfl ?_
        refine RL.nil (RC.back ?_)
        refine RC.done (rs := [.tmp 8]) (vs := [_]) rfl rfl ⟨rfl, trivial⟩ ?_
        -- end 2
        exact ⟨congrArg (Value.int .i64) hres.symm, S⟩
      ·
        have hy : getA A r = some y := (by cases hg : getA A r with | none => have := (hgn hg).2; omega | some x => rw [(hgs x hg).1])
        refine RL.ev (.move rfl) rfl rfl ?_
        refine RL.ev (.bin rfl rfl rfl) rfl rfl ?_
        refine RL.ev (.pick_f rfl rfl) rfl rfl ?_
        refine RL.ev (.move rfl) rfl rfl ?_
        refine RL.split 34 rfl (fun h7 => ?_) (fun h7 => ?_)
        ·
          have hres := mayF_bad (k := k) (b := b) hr0 hy (.inl h7)
          refine RL.off rfl rfl ?_
          refine RL.off rfl rfl ?_
          refine RL.off rfl rfl ?_
          refine RL.ev (.pick_t rfl rfl) rfl rfl ?_
          refine RL.ev (.move rfl) rfl rfl ?_
          refine RL.off rfl rfl ?_
          refine RL.off rfl rfl ?_
          refine RL.off rfl rfl ?_
          refine RL.off rfl rfl ?_
          refine RL.off rfl rfl ?_
          refine RL.off rfl rfl ?_
          refine RL.off rfl rfl ?_
          refine RL.off rfl rfl ?_
          refine RL.off rfl rfl ?_
          refine RL.ev (.pick_t rfl rfl) rfl rfl ?_
          refine RL.ev (.move rfl) rfl rfl ?_
          refine RL.off rfl rfl ?_
          refine RL.off rfl rfl ?_
          refine RL.off rfl rfl ?_
          refine RL.off rfl rfl ?_
          refine RL.off rfl rfl ?_
          refine RL.off rfl rfl ?_
          refine RL.off rfl rfl ?_
          refine RL.off rfl rfl ?_
          refine RL.off rfl rfl ?_
          refine RL.ev (.pick_t rfl rfl) rfl rfl ?_
          refine RL.ev (.move rfl) rfl rfl ?_
          refine RL.off rfl rfl ?_
          refine RL.off rfl rfl ?_
          refine RL.off rfl rfl ?_
          refine RL.off rfl rfl ?_
          refine RL.off rfl rfl ?_
          refine RL.off rfl rfl ?_
          refine RL.off rfl rfl ?_
          refine RL.off rfl rfl ?_
          refine RL.off rfl rfl ?_
          refine RL.off rfl rfl ?_
          refine RL.ev (.pick_t rfl rfl) rfl rfl ?_
          refine RL.nil (RC.back ?_)
          refine RC.cond_t rfl ?_
          refine RC.seq ?_
          refine RC.region rfl ?_
          refine RL.ev (.assign rfl) rfl rfl ?_
          refine RL.nil (RC.back ?_)
          refine RC.done (rs := [.tmp 8]) (vs := [_]) rfl rfl ⟨rfl, trivial⟩ ?_
          -- end 3
          exact ⟨congrArg (Value.int .i64) hres.symm, S⟩
        ·
          have p34 := h7
          refine RL.ev (.field0 fo69_0 rfl) rfl rfl ?_
          refine RL.ev (.load1 sh3 rfl (hb_9.cell rfl)) rfl rfl ?_
          refine RL.ev (.bin rfl rfl rfl) rfl rfl ?_
          refine RL.ev (.pick_f rfl rfl) rfl rfl ?_
          refine RL.ev (.move rfl) rfl rfl ?_
          refine RL.split 39 rfl (fun h8 => ?_) (fun h8 => ?_)
          ·
            have hres := mayF_bad (k := k) (b := b) (left := left) hr0 hy (.inr (.inl h8))
            refine RL.off rfl rfl ?_
            refine RL.off rfl rfl ?_
            refine RL.off rfl rfl ?_
            refine RL.off rfl rfl ?_
            refine RL.off rfl rfl ?_
            refine RL.off rfl rfl ?_
            refine RL.off rfl rfl ?_
            refine RL.off rfl rfl ?_
            refine RL.off rfl rfl ?_
            refine RL.ev (.pick_t rfl rfl) rfl rfl ?_
            refine RL.ev (.move rfl) rfl rfl ?_
            refine RL.off rfl rfl ?_
            refine RL.off rfl rfl ?_
            refine RL.off rfl rfl ?_
            refine RL.off rfl rfl ?_
            refine RL.off rfl rfl ?_
            refine RL.off rfl rfl ?_
            refine RL.off rfl rfl ?_
            refine RL.off rfl rfl ?_
            refine RL.off rfl rfl ?_
            refine RL.ev (.pick_t rfl rfl) rfl rfl ?_
            refine RL.ev (.move rfl) rfl rfl ?_
            refine RL.off rfl rfl ?_
            refine RL.off rfl rfl ?_
            refine RL.off rfl rfl ?_
            refine RL.off rfl rfl ?_
            refine RL.off rfl rfl ?_
            refine RL.off rfl rfl ?_
            refine RL.off rfl rfl ?_
            refine RL.off rfl rfl ?_
            refine RL.off rfl rfl ?_
            refine RL.off rfl rfl ?_
            refine RL.ev (.pick_t rfl rfl) rfl rfl ?_
            refine RL.nil (RC.back ?_)
            refine RC.cond_t rfl ?_
            refine RC.seq ?_
            refine RC.region rfl ?_
            refine RL.ev (.assign rfl) rfl rfl ?_
            refine RL.nil (RC.back ?_)
            refine RC.done (rs := [.tmp 8]) (vs := [_]) rfl rfl ⟨rfl, trivial⟩ ?_
            -- end 4
            exact ⟨congrArg (Value.int .i64) hres.symm, S⟩
          ·
            have p39 := h8
            refine RL.ev (.field0 fo91_2 rfl) rfl rfl ?_
            refine RL.ev (.load1 sh4 rfl (hb_6.cell rfl)) rfl rfl ?_
            refine RL.ev (.move rfl) rfl rfl ?_
            refine RL.splitB 42 rfl (fun h9 => ?_) (fun h9 => ?_)
            ·
              have qL := h9
              refine RL.ev (.field0 fo69_2 rfl) rfl rfl ?_
              refine RL.ev (.load1 sh2 rfl (hb_9.cell rfl)) rfl rfl ?_
              refine RL.ev (.field0 fo91_0 rfl) rfl rfl ?_
              refine RL.ev (.load1 sh2 rfl (hb_6.cell rfl)) rfl rfl ?_
              refine RL.ev (.bin rfl rfl rfl) rfl rfl ?_
              refine RL.ev (.pick_t rfl rfl) rfl rfl ?_
              refine RL.ev (.pick_f rfl rfl) rfl rfl ?_
              refine RL.ev (.move rfl) rfl rfl ?_
              refine RL.split 50 rfl (fun h10 => ?_) (fun h10 => ?_)
              ·
                have hres := mayF_bad (k := k) (b := b) (left := left) hr0 hy (.inr (.inr (.inl ⟨qL, h10⟩)))
                refine RL.off rfl rfl ?_
                refine RL.off rfl rfl ?_
                refine RL.off rfl rfl ?_
                refine RL.off rfl rfl ?_
                refine RL.off rfl rfl ?_
                refine RL.off rfl rfl ?_
                refine RL.off rfl rfl ?_
                refine RL.off rfl rfl ?_
                refine RL.off rfl rfl ?_
                refine RL.ev (.pick_t rfl rfl) rfl rfl ?_
                refine RL.ev (.move rfl) rfl rfl ?_
                refine RL.off rfl rfl ?_
                refine RL.off rfl rfl ?_
                refine RL.off rfl rfl ?_
                refine RL.off rfl rfl ?_
                refine RL.off rfl rfl ?_
                refine RL.off rfl rfl ?_
                refine RL.off rfl rfl ?_
                refine RL.off rfl rfl ?_
                refine RL.off rfl rfl ?_
                refine RL.off rfl rfl ?_
                refine RL.ev (.pick_t rfl rfl) rfl rfl ?_
                refine RL.nil (RC.back ?_)
                refine RC.cond_t rfl ?_
                refine RC.seq ?_
                refine RC.region rfl ?_
                refine RL.ev (.assign rfl) rfl rfl ?_
                refine RL.nil (RC.back ?_)
                refine RC.done (rs := [.tmp 8]) (vs := [_]) rfl rfl ⟨rfl, trivial⟩ ?_
                -- end 5
                exact ⟨congrArg (Value.int .i64) hres.symm, S⟩
              ·
                have pL := h10
                refine RL.ev (.field0 fo91_3 rfl) rfl rfl ?_
                refine RL.ev (.load1 sh4 rfl (hb_6.cell rfl)) rfl rfl ?_
                refine RL.ev (.move rfl) rfl rfl ?_
                refine RL.splitB 53 rfl (fun h11 => ?_) (fun h11 => ?_)
                ·
                  have qH := h11
                  refine RL.ev (.field0 fo69_2 rfl) rfl rfl ?_
                  refine RL.ev (.load1 sh2 rfl (hb_9.cell rfl)) rfl rfl ?_
                  refine RL.ev (.field0 fo91_1 rfl) rfl rfl ?_
                  refine RL.ev (.load1 sh2 rfl (hb_6.cell rfl)) rfl rfl ?_
                  refine RL.ev (.bin rfl rfl rfl) rfl rfl ?_
                  refine RL.ev (.pick_t rfl rfl) rfl rfl ?_
                  refine RL.ev (.pick_f rfl rfl) rfl rfl ?_
                  refine RL.ev (.move rfl) rfl rfl ?_
                  refine RL.split 61 rfl (fun h12 => ?_) (fun h12 => ?_)
                  ·
                    have hres := mayF_bad (k := k) (b := b) (left := left) hr0 hy (.inr (.inr (.inr (.inl ⟨qH, by omega⟩))))
                    refine RL.off rfl rfl ?_
                    refine RL.off rfl rfl ?_
                    refine RL.off rfl rfl ?_
                    refine RL.off rfl rfl ?_
                    refine RL.off rfl rfl ?_
                    refine RL.off rfl rfl ?_
                    refine RL.off rfl rfl ?_
                    refine RL.off rfl rfl ?_
                    refine RL.off rfl rfl ?_
                    refine RL.off rfl rfl ?_
                    refine RL.ev (.pick_t rfl rfl) rfl rfl ?_
                    refine RL.nil (RC.back ?_)
                    refine RC.cond_t rfl ?_
                    refine RC.seq ?_
                    refine RC.region rfl ?_
                    refine RL.ev (.assign rfl) rfl rfl ?_
                    refine RL.nil (RC.back ?_)
                    refine RC.done (rs := [.tmp 8]) (vs := [_]) rfl rfl ⟨rfl, trivial⟩ ?_
                    -- end 6
                    exact ⟨congrArg (Value.int .i64) hres.symm, S⟩
                  ·
                    have pH := h12
                    refine RL.ev (.field0 fo91_5 rfl) rfl rfl ?_
                    refine RL.ev (.load1 sh4 rfl (hb_6.cell rfl)) rfl rfl ?_
                    refine RL.ev (.move rfl) rfl rfl ?_
                    refine RL.splitB 64 rfl (fun h13 => ?_) (fun h13 => ?_)
                    ·
                      have qA := h13
                      refine RL.ev (.field0 fo91_4 rfl) rfl rfl ?_
                      refine RL.ev (.load1 sh2 rfl (hb_6.cell rfl)) rfl rfl ?_
                      refine RL.ev (.field0 fo69_2 rfl) rfl rfl ?_
                      refine RL.ev (.load1 sh2 rfl (hb_9.cell rfl)) rfl rfl ?_
                      refine RL.call rfl ok36 (c_before b.above y.n w4) rfl rfl ?_
                      rintro _ w14 ⟨rfl, s15⟩
                      have S := S.trans s15
                      have hbf := hbf.sub s15
                      have hb_6 := hb_6.sub s15
                      have hb_9 := hb_9.sub s15
                      refine RL.ev (.not rfl) rfl rfl ?_
                      refine RL.ev (.pick_t rfl rfl) rfl rfl ?_
                      refine RL.ev (.pick_f rfl rfl) rfl rfl ?_
                      refine RL.nil (RC.back ?_)
                      refine RC.cond rfl (fun h16 => ?_) (fun h16 => ?_)
                      ·
                        have hres := mayF_bad (k := k) (b := b) (left := left) hr0 hy (.inr (.inr (.inr (.inr ⟨qA, by simpa using h16⟩))))
                        refine RC.seq ?_
                        refine RC.region rfl ?_
                        refine RL.ev (.assign rfl) rfl rfl ?_
                        refine RL.nil (RC.back ?_)
                        refine RC.done (rs := [.tmp 8]) (vs := [_]) rfl rfl ⟨rfl, trivial⟩ ?_
                        -- end 7
                        exact ⟨congrArg (Value.int .i64) hres.symm, S⟩
                      ·
                        have pA := h16
                        exact RC.skip (fun a ka => ⟨(), ⟨hy, by rintro (q | q | (q | q | q)); exact p34 q; exact p39 q; (first | exact pL q.2 | (rw [q.1] at qL; cases qL)); (first | exact pH (by have := q.2; omega) | (rw [q.1] at qH; cases qH)); (first | (rw [q.1] at qA; cases qA; done) | (rw [q.2] at pA; cases pA; done)), hbf, hb_6, hb_9, S⟩, ka.keep (keep_of (by repeat (first | exact trivial | refine And.intro rfl ?_)))⟩)
                    ·
                      have qA := h13
                      refine RL.off rfl rfl ?_
                      refine RL.off rfl rfl ?_
                      refine RL.off rfl rfl ?_
                      refine RL.off rfl rfl ?_
                      refine RL.off rfl rfl ?_
                      refine RL.off rfl rfl ?_
                      refine RL.ev (.pick_f rfl rfl) rfl rfl ?_
                      refine RL.ev (.pick_f rfl rfl) rfl rfl ?_
                      refine RL.nil (RC.back ?_)
                      refine RC.cond_f rfl ?_
                      exact RC.skip (fun a ka => ⟨(), ⟨hy, by rintro (q | q | (q | q | q)); exact p34 q; exact p39 q; (first | exact pL q.2 | (rw [q.1] at qL; cases qL)); (first | exact pH (by have := q.2; omega) | (rw [q.1] at qH; cases qH)); (first | (rw [q.1] at qA; cases qA; done) | (rw [q.2] at pA; cases pA; done)), hbf, hb_6, hb_9, S⟩, ka.keep (keep_of (by repeat (first | exact trivial | refine And.intro rfl ?_)))⟩)
                ·
                  have qH := h11
                  refine RL.off rfl rfl ?_
                  refine RL.off rfl rfl ?_
                  refine RL.off rfl rfl ?_
                  refine RL.off rfl rfl ?_
                  refine RL.off rfl rfl ?_
                  refine RL.ev (.pick_f rfl rfl) rfl rfl ?_
                  refine RL.ev (.pick_f rfl rfl) rfl rfl ?_
                  refine RL.ev (.move rfl) rfl rfl ?_
                  refine RL.ev (.field0 fo91_5 rfl) rfl rfl ?_
                  refine RL.ev (.load1 sh4 rfl (hb_6.cell rfl)) rfl rfl ?_
                  refine RL.ev (.move rfl) rfl rfl ?_
                  refine RL.splitB 64 rfl (fun h17 => ?_) (fun h17 => ?_)
                  ·
                    have qA := h17
                    refine RL.ev (.field0 fo91_4 rfl) rfl rfl ?_
                    refine RL.ev (.load1 sh2 rfl (hb_6.cell rfl)) rfl rfl ?_
                    refine RL.ev (.field0 fo69_2 rfl) rfl rfl ?_
                    refine RL.ev (.load1 sh2 rfl (hb_9.cell rfl)) rfl rfl ?_
                    refine RL.call rfl ok36 (c_before b.above y.n w4) rfl rfl ?_
                    rintro _ w18 ⟨rfl, s19⟩
                    have S := S.trans s19
                    have hbf := hbf.sub s19
                    have hb_6 := hb_6.sub s19
                    have hb_9 := hb_9.sub s19
                    refine RL.ev (.not rfl) rfl rfl ?_
                    refine RL.ev (.pick_t rfl rfl) rfl rfl ?_
                    refine RL.ev (.pick_f rfl rfl) rfl rfl ?_
                    refine RL.nil (RC.back ?_)
                    refine RC.cond rfl (fun h20 => ?_) (fun h20 => ?_)
                    ·
                      have hres := mayF_bad (k := k) (b := b) (left := left) hr0 hy (.inr (.inr (.inr (.inr ⟨qA, by simpa using h20⟩))))
                      refine RC.seq ?_
                      refine RC.region rfl ?_
                      refine RL.ev (.assign rfl) rfl rfl ?_
                      refine RL.nil (RC.back ?_)
                      refine RC.done (rs := [.tmp 8]) (vs := [_]) rfl rfl ⟨rfl, trivial⟩ ?_
                      -- end 8
                      exact ⟨congrArg (Value.int .i64) hres.symm, S⟩
                    ·
                      have pA := h20
                      exact RC.skip (fun a ka => ⟨(), ⟨hy, by rintro (q | q | (q | q | q)); exact p34 q; exact p39 q; (first | exact pL q.2 | (rw [q.1] at qL; cases qL)); (first | exact pH (by have := q.2; omega) | (rw [q.1] at qH; cases qH)); (first | (rw [q.1] at qA; cases qA; done) | (rw [q.2] at pA; cases pA; done)), hbf, hb_6, hb_9, S⟩, ka.keep (keep_of (by repeat (first | exact trivial | refine And.intro rfl ?_)))⟩)
                  ·
                    have qA := h17
                    refine RL.off rfl rfl ?_
                    refine RL.off rfl rfl ?_
                    refine RL.off rfl rfl ?_
                    refine RL.off rfl rfl ?_
                    refine RL.off rfl rfl ?_
                    refine RL.off rfl rfl ?_
                    refine RL.ev (.pick_f rfl rfl) rfl rfl ?_
                    refine RL.ev (.pick_f rfl rfl) rfl rfl ?_
                    refine RL.nil (RC.back ?_)
                    refine RC.cond_f rfl ?_
                    exact RC.skip (fun a ka => ⟨(), ⟨hy, by rintro (q | q | (q | q | q)); exact p34 q; exact p39 q; (first | exact pL q.2 | (rw [q.1] at qL; cases qL)); (first | exact pH (by have := q.2; omega) | (rw [q.1] at qH; cases qH)); (first | (rw [q.1] at qA; cases qA; done) | (rw [q.2] at pA; cases pA; done)), hbf, hb_6, hb_9, S⟩, ka.keep (keep_of (by repeat (first | exact trivial | refine And.intro rfl ?_)))⟩)
            ·
              have qL := h9
              refine RL.off rfl rfl ?_
              refine RL.off rfl rfl ?_
              refine RL.off rfl rfl ?_
              refine RL.off rfl rfl ?_
              refine RL.off rfl rfl ?_
              refine RL.ev (.pick_f rfl rfl) rfl rfl ?_
              refine RL.ev (.pick_f rfl rfl) rfl rfl ?_
              refine RL.ev (.move rfl) rfl rfl ?_
              refine RL.ev (.field0 fo91_3 rfl) rfl rfl ?_
              refine RL.ev (.load1 sh4 rfl (hb_6.cell rfl)) rfl rfl ?_
              refine RL.ev (.move rfl) rfl rfl ?_
              refine RL.splitB 53 rfl (fun h21 => ?_) (fun h21 => ?_)
              ·
                have qH := h21
                refine RL.ev (.field0 fo69_2 rfl) rfl rfl ?_
                refine RL.ev (.load1 sh2 rfl (hb_9.cell rfl)) rfl rfl ?_
                refine RL.ev (.field0 fo91_1 rfl) rfl rfl ?_
                refine RL.ev (.load1 sh2 rfl (hb_6.cell rfl)) rfl rfl ?_
                refine RL.ev (.bin rfl rfl rfl) rfl rfl ?_
                refine RL.ev (.pick_t rfl rfl) rfl rfl ?_
                refine RL.ev (.pick_f rfl rfl) rfl rfl ?_
                refine RL.ev (.move rfl) rfl rfl ?_
                refine RL.split 61 rfl (fun h22 => ?_) (fun h22 => ?_)
                ·
                  have hres := mayF_bad (k := k) (b := b) (left := left) hr0 hy (.inr (.inr (.inr (.inl ⟨qH, by omega⟩))))
                  refine RL.off rfl rfl ?_
                  refine RL.off rfl rfl ?_
                  refine RL.off rfl rfl ?_
                  refine RL.off rfl rfl ?_
                  refine RL.off rfl rfl ?_
                  refine RL.off rfl rfl ?_
                  refine RL.off rfl rfl ?_
                  refine RL.off rfl rfl ?_
                  refine RL.off rfl rfl ?_
                  refine RL.off rfl rfl ?_
                  refine RL.ev (.pick_t rfl rfl) rfl rfl ?_
                  refine RL.nil (RC.back ?_)
                  refine RC.cond_t rfl ?_
                  refine RC.seq ?_
                  refine RC.region rfl ?_
                  refine RL.ev (.assign rfl) rfl rfl ?_
                  refine RL.nil (RC.back ?_)
                  refine RC.done (rs := [.tmp 8]) (vs := [_]) rfl rfl ⟨rfl, trivial⟩ ?_
                  -- end 9
                  exact ⟨congrArg (Value.int .i64) hres.symm, S⟩
                ·
                  have pH := h22
                  refine RL.ev (.field0 fo91_5 rfl) rfl rfl ?_
                  refine RL.ev (.load1 sh4 rfl (hb_6.cell rfl)) rfl rfl ?_
                  refine RL.ev (.move rfl) rfl rfl ?_
                  refine RL.splitB 64 rfl (fun h23 => ?_) (fun h23 => ?_)
                  ·
                    have qA := h23
                    refine RL.ev (.field0 fo91_4 rfl) rfl rfl ?_
                    refine RL.ev (.load1 sh2 rfl (hb_6.cell rfl)) rfl rfl ?_
                    refine RL.ev (.field0 fo69_2 rfl) rfl rfl ?_
                    refine RL.ev (.load1 sh2 rfl (hb_9.cell rfl)) rfl rfl ?_
                    refine RL.call rfl ok36 (c_before b.above y.n w4) rfl rfl ?_
                    rintro _ w24 ⟨rfl, s25⟩
                    have S := S.trans s25
                    have hbf := hbf.sub s25
                    have hb_6 := hb_6.sub s25
                    have hb_9 := hb_9.sub s25
                    refine RL.ev (.not rfl) rfl rfl ?_
                    refine RL.ev (.pick_t rfl rfl) rfl rfl ?_
                    refine RL.ev (.pick_f rfl rfl) rfl rfl ?_
                    refine RL.nil (RC.back ?_)
                    refine RC.cond rfl (fun h26 => ?_) (fun h26 => ?_)
                    ·
                      have hres := mayF_bad (k := k) (b := b) (left := left) hr0 hy (.inr (.inr (.inr (.inr ⟨qA, by simpa using h26⟩))))
                      refine RC.seq ?_
                      refine RC.region rfl ?_
                      refine RL.ev (.assign rfl) rfl rfl ?_
                      refine RL.nil (RC.back ?_)
                      refine RC.done (rs := [.tmp 8]) (vs := [_]) rfl rfl ⟨rfl, trivial⟩ ?_
                      -- end 10
                      exact ⟨congrArg (Value.int .i64) hres.symm, S⟩
                    ·
                      have pA := h26
                      exact RC.skip (fun a ka => ⟨(), ⟨hy, by rintro (q | q | (q | q | q)); exact p34 q; exact p39 q; (first | exact pL q.2 | (rw [q.1] at qL; cases qL)); (first | exact pH (by have := q.2; omega) | (rw [q.1] at qH; cases qH)); (first | (rw [q.1] at qA; cases qA; done) | (rw [q.2] at pA; cases pA; done)), hbf, hb_6, hb_9, S⟩, ka.keep (keep_of (by repeat (first | exact trivial | refine And.intro rfl ?_)))⟩)
                  ·
                    have qA := h23
                    refine RL.off rfl rfl ?_
                    refine RL.off rfl rfl ?_
                    refine RL.off rfl rfl ?_
                    refine RL.off rfl rfl ?_
                    refine RL.off rfl rfl ?_
                    refine RL.off rfl rfl ?_
                    refine RL.ev (.pick_f rfl rfl) rfl rfl ?_
                    refine RL.ev (.pick_f rfl rfl) rfl rfl ?_
                    refine RL.nil (RC.back ?_)
                    refine RC.cond_f rfl ?_
                    exact RC.skip (fun a ka => ⟨(), ⟨hy, by rintro (q | q | (q | q | q)); exact p34 q; exact p39 q; (first | exact pL q.2 | (rw [q.1] at qL; cases qL)); (first | exact pH (by have := q.2; omega) | (rw [q.1] at qH; cases qH)); (first | (rw [q.1] at qA; cases qA; done) | (rw [q.2] at pA; cases pA; done)), hbf, hb_6, hb_9, S⟩, ka.keep (keep_of (by repeat (first | exact trivial | refine And.intro rfl ?_)))⟩)
              ·
                have qH := h21
                refine RL.off rfl rfl ?_
                refine RL.off rfl rfl ?_
                refine RL.off rfl rfl ?_
                refine RL.off rfl rfl ?_
                refine RL.off rfl rfl ?_
                refine RL.ev (.pick_f rfl rfl) rfl rfl ?_
                refine RL.ev (.pick_f rfl rfl) rfl rfl ?_
                refine RL.ev (.move rfl) rfl rfl ?_
                refine RL.ev (.field0 fo91_5 rfl) rfl rfl ?_
                refine RL.ev (.load1 sh4 rfl (hb_6.cell rfl)) rfl rfl ?_
                refine RL.ev (.move rfl) rfl rfl ?_
                refine RL.splitB 64 rfl (fun h27 => ?_) (fun h27 => ?_)
                ·
                  have qA := h27
                  refine RL.ev (.field0 fo91_4 rfl) rfl rfl ?_
                  refine RL.ev (.load1 sh2 rfl (hb_6.cell rfl)) rfl rfl ?_
                  refine RL.ev (.field0 fo69_2 rfl) rfl rfl ?_
                  refine RL.ev (.load1 sh2 rfl (hb_9.cell rfl)) rfl rfl ?_
                  refine RL.call rfl ok36 (c_before b.above y.n w4) rfl rfl ?_
                  rintro _ w28 ⟨rfl, s29⟩
                  have S := S.trans s29
                  have hbf := hbf.sub s29
                  have hb_6 := hb_6.sub s29
                  have hb_9 := hb_9.sub s29
                  refine RL.ev (.not rfl) rfl rfl ?_
                  refine RL.ev (.pick_t rfl rfl) rfl rfl ?_
                  refine RL.ev (.pick_f rfl rfl) rfl rfl ?_
                  refine RL.nil (RC.back ?_)
                  refine RC.cond rfl (fun h30 => ?_) (fun h30 => ?_)
                  ·
                    have hres := mayF_bad (k := k) (b := b) (left := left) hr0 hy (.inr (.inr (.inr (.inr ⟨qA, by simpa using h30⟩))))
                    refine RC.seq ?_
                    refine RC.region rfl ?_
                    refine RL.ev (.assign rfl) rfl rfl ?_
                    refine RL.nil (RC.back ?_)
                    refine RC.done (rs := [.tmp 8]) (vs := [_]) rfl rfl ⟨rfl, trivial⟩ ?_
                    -- end 11
                    exact ⟨congrArg (Value.int .i64) hres.symm, S⟩
                  ·
                    have pA := h30
                    exact RC.skip (fun a ka => ⟨(), ⟨hy, by rintro (q | q | (q | q | q)); exact p34 q; exact p39 q; (first | exact pL q.2 | (rw [q.1] at qL; cases qL)); (first | exact pH (by have := q.2; omega) | (rw [q.1] at qH; cases qH)); (first | (rw [q.1] at qA; cases qA; done) | (rw [q.2] at pA; cases pA; done)), hbf, hb_6, hb_9, S⟩, ka.keep (keep_of (by repeat (first | exact trivial | refine And.intro rfl ?_)))⟩)
                ·
                  have qA := h27
                  refine RL.off rfl rfl ?_
                  refine RL.off rfl rfl ?_
                  refine RL.off rfl rfl ?_
                  refine RL.off rfl rfl ?_
                  refine RL.off rfl rfl ?_
                  refine RL.off rfl rfl ?_
                  refine RL.ev (.pick_f rfl rfl) rfl rfl ?_
                  refine RL.ev (.pick_f rfl rfl) rfl rfl ?_
                  refine RL.nil (RC.back ?_)
                  refine RC.cond_f rfl ?_
                  exact RC.skip (fun a ka => ⟨(), ⟨hy, by rintro (q | q | (q | q | q)); exact p34 q; exact p39 q; (first | exact pL q.2 | (rw [q.1] at qL; cases qL)); (first | exact pH (by have := q.2; omega) | (rw [q.1] at qH; cases qH)); (first | (rw [q.1] at qA; cases qA; done) | (rw [q.2] at pA; cases pA; done)), hbf, hb_6, hb_9, S⟩, ka.keep (keep_of (by repeat (first | exact trivial | refine And.intro rfl ?_)))⟩)
    obtain ⟨hy, hnb, hbf, hb_6, hb_9, S⟩ := hJ
    have hk1 : y.kind = 1 := Decidable.not_not.1 (fun e => hnb (.inr (.inl e)))
    have hleft : ¬ left = 0 := (fun e => hnb (.inl e))
    refine RC.seq ?_
    refine RC.region rfl ?_
    refine RL.ev (.field0 fo69_0 rfl) rfl rfl ?_
    refine RL.ev (.load1 sh3 rfl (hb_9.cell rfl)) rfl rfl ?_
    refine RL.ev (.field0 fo69_1 rfl) rfl rfl ?_
    refine RL.ev (.load1 sh3 rfl (hb_9.cell rfl)) rfl rfl ?_
    refine RL.ev (.field0 fo69_2 rfl) rfl rfl ?_
    refine RL.ev (.load1 sh2 rfl (hb_9.cell rfl)) rfl rfl ?_
    refine RL.ev (.field0 fo69_3 rfl) rfl rfl ?_
    refine RL.ev (.load1 sh2 rfl (hb_9.cell rfl)) rfl rfl ?_
    refine RL.ev (.field0 fo69_4 rfl) rfl rfl ?_
    refine RL.ev (.load1 sh2 rfl (hb_9.cell rfl)) rfl rfl ?_
    refine RL.ev (.buildS ze69 pl69 rfl rfl) rfl rfl ?_
    refine RL.alloc ze69 rfl rfl (fun b_11 w_11 e_11 z_11 hb_11 s_11 => ?_)
    have ge_11 := S.le e_11
    have nf__11 := hbf.ne e_11
    have n_6__11 := hb_6.ne e_11
    have n_9__11 := hb_9.ne e_11
    have S := S.trans s_11
    have hbf := hbf.sub s_11
    have hb_6 := hb_6.sub s_11
    have hb_9 := hb_9.sub s_11
    refine RL.store sh69 rfl rfl rfl hb_11 (by exact Nat.le_of_ble_eq_true rfl) (by rfl) rfl (fun w31 z31 hb_11 a31 => ?_)
    have S := S.upd a31 ge_11
    have hbf := hbf.upd a31 nf__11
    have hb_6 := hb_6.upd a31 n_6__11
    have hb_9 := hb_9.upd a31 n_9__11
    have hb_11 : Has w31 b_11 ((bare1 y 0 0).cells) _ := hb_11.now (by kernel_rfl)
    refine RL.nil (RC.back ?_)
    refine RC.cutx (α := Unit) (fun _ => [(0, .pointer (some ⟨bf, 0, none⟩)), (3, .int .i64 left), (6, .pointer (some ⟨b_6, 0, none⟩)), (9, .pointer (some ⟨b_9, 0, none⟩)), (11, .pointer (some ⟨b_11, 0, none⟩))]) (fun _ w32 => Has w32 bf (frC na fa nc fc A bad) 80 ∧ Has w32 b_6 b.cells 91 ∧ Has w32 b_9 y.cells 69 ∧ Has w32 b_11 (bare1 y y.k0 y.k1).cells 69 ∧ Sub w w32) ?_ (fun _ w32 hJ => ?_)
    ·
      refine RC.drawD (fun k => k = b_11) [8, 11] w31.heap.size 12 rfl rfl mxo (fun w33 s34 => ?_)
      have hNN : ∀ k, ((k = b_11) ∨ w31.heap.size ≤ k) → w.heap.size ≤ k := fun k e => e.elim (fun e => e ▸ ge_11) (fun e => Nat.le_trans S.size e)
      have ent_S := S.size
      have hN0 : ∀ k, w31.heap.size ≤ k → w.heap.size ≤ k := fun k e => Nat.le_trans S.size e
      have ltD_bf := hbf.lt
      have ltD_b_6 := hb_6.lt
      have ltD_b_9 := hb_9.lt
      have ltD_b_11 := hb_11.lt
      have szD := Nat.le_refl w31.heap.size
      have S := S.trans s34
      have hbf := hbf.sub s34
      have hb_6 := hb_6.sub s34
      have hb_9 := hb_9.sub s34
      have hb_11 := hb_11.sub s34
      have szD := Nat.le_trans szD s34.size
      refine RD.take 0 rfl (by kernel_rfl) (by kernel_rfl) (by kernel_rfl) (fun w' s' => .field0 fo69_5 rfl) rfl rfl ?_
      refine RD.take 1 rfl (by kernel_rfl) (by kernel_rfl) (by kernel_rfl) (fun w' s' => .indexArr ar67 rfl rfl (by omega)) rfl rfl ?_
      refine RD.take 2 rfl (by kernel_rfl) (by kernel_rfl) (by kernel_rfl) (fun w' s' => .load1 sh30 rfl ((hb_9.step s' (fun e => e.elim (fun e => n_9__11 e) (fun e => Nat.not_le.2 ltD_b_9 e))).cell rfl)) rfl rfl ?_
      refine RD.take 3 rfl (by kernel_rfl) (by kernel_rfl) (by kernel_rfl) (fun w' s' => .field0 fo69_5 rfl) rfl rfl ?_
      refine RD.take 4 rfl (by kernel_rfl) (by kernel_rfl) (by kernel_rfl) (fun w' s' => .indexArr ar67 rfl rfl (by omega)) rfl rfl ?_
      refine RD.take 5 rfl (by kernel_rfl) (by kernel_rfl) (by kernel_rfl) (fun w' s' => .load1 sh30 rfl ((hb_9.step s' (fun e => e.elim (fun e => n_9__11 e) (fun e => Nat.not_le.2 ltD_b_9 e))).cell rfl)) rfl rfl ?_
      refine RD.take 6 rfl (by kernel_rfl) (by kernel_rfl) (by kernel_rfl) (fun w' s' => .field0 fo69_5 rfl) rfl rfl ?_
      refine RD.take 7 rfl (by kernel_rfl) (by kernel_rfl) (by kernel_rfl) (fun w' s' => .indexArr ar67 rfl rfl (by omega)) rfl rfl ?_
      refine RD.take 9 rfl (by kernel_rfl) (by kernel_rfl) (by kernel_rfl) (fun w' s' => .field0 fo69_5 rfl) rfl rfl ?_
      refine RD.all [8] (by kernel_rfl) rfl (RDs.cons rfl ?_ (RDs.nil))
      refine RL.store sh30 rfl rfl rfl hb_11 (by exact Nat.le_of_ble_eq_true rfl) (by rfl) rfl (fun w35 z35 hb_11 a35 => ?_)
      have S := S.upd a35 ge_11
      have hbf := hbf.upd a35 nf__11
      have hb_6 := hb_6.upd a35 n_6__11
      have hb_9 := hb_9.upd a35 n_9__11
      have szD := Nat.le_trans szD a35.size
      refine RD.backW rfl (a35.mono fun k _ e => e ▸ (.inl (rfl))) ?_
      refine RD.take 10 rfl (by kernel_rfl) (by kernel_rfl) (by kernel_rfl) (fun w' s' => .indexArr ar67 rfl rfl (by omega)) rfl rfl ?_
      refine RD.all [11] (by kernel_rfl) rfl (RDs.cons rfl ?_ (RDs.nil))
      refine RL.store sh30 rfl rfl rfl hb_11 (by exact Nat.le_of_ble_eq_true rfl) (by rfl) rfl (fun w36 z36 hb_11 a36 => ?_)
      have S := S.upd a36 ge_11
      have hbf := hbf.upd a36 nf__11
      have hb_6 := hb_6.upd a36 n_6__11
      have hb_9 := hb_9.upd a36 n_9__11
      have szD := Nat.le_trans szD a36.size
      refine RD.backW rfl (a36.mono fun k _ e => e ▸ (.inl (rfl))) ?_
      exact RD.done (by kernel_rfl) (fun a ka => ⟨(), ⟨hbf, hb_6, hb_9, hb_11, S⟩, ka.keep (keep_of (by repeat (first | exact trivial | refine And.intro rfl ?_)))⟩)
    obtain ⟨hbf, hb_6, hb_9, hb_11, S⟩ := hJ
    refine RC.seq ?_
    refine RC.region rfl ?_
    refine RL.ev (.loadR (b.cells) sh91 rfl hb_6.row rfl) rfl rfl ?_
    refine RL.alloc ze91 rfl rfl (fun b_12 w_12 e_12 z_12 hb_12 s_12 => ?_)
    have ge_12 := S.le e_12
    have nf__12 := hbf.ne e_12
    have n_6__12 := hb_6.ne e_12
    have n_9__12 := hb_9.ne e_12
    have n_11__12 := hb_11.ne e_12
    have S := S.trans s_12
    have hbf := hbf.sub s_12
    have hb_6 := hb_6.sub s_12
    have hb_9 := hb_9.sub s_12
    have hb_11 := hb_11.sub s_12
    refine RL.store sh91 rfl rfl rfl hb_12 (by exact Nat.le_of_ble_eq_true rfl) (by rfl) rfl (fun w37 z37 hb_12 a37 => ?_)
    have S := S.upd a37 ge_12
    have hbf := hbf.upd a37 nf__12
    have hb_6 := hb_6.upd a37 n_6__12
    have hb_9 := hb_9.upd a37 n_9__12
    have hb_11 := hb_11.upd a37 n_11__12
    have hb_12 : Has w37 b_12 (b.cells) _ := hb_12.now (by kernel_rfl)
    refine RL.nil (RC.back ?_)
    refine RC.seq ?_
    refine RC.region rfl ?_
    refine RL.ev (.field0 fo69_2 rfl) rfl rfl ?_
    refine RL.ev (.load1 sh2 rfl (hb_9.cell rfl)) rfl rfl ?_
    refine RL.ev (.field0 fo91_4 rfl) rfl rfl ?_
    refine RL.store sh2 rfl rfl rfl hb_12 (by exact Nat.le_of_ble_eq_true rfl) (by rfl) rfl (fun w38 z38 hb_12 a38 => ?_)
    have S := S.upd a38 ge_12
    have hbf := hbf.upd a38 nf__12
    have hb_6 := hb_6.upd a38 n_6__12
    have hb_9 := hb_9.upd a38 n_9__12
    have hb_11 := hb_11.upd a38 n_11__12
    refine RL.ev (.field0 fo91_5 rfl) rfl rfl ?_
    refine RL.store sh4 rfl rfl rfl hb_12 (by exact Nat.le_of_ble_eq_true rfl) (by rfl) rfl (fun w39 z39 hb_12 a39 => ?_)
    have S := S.upd a39 ge_12
    have hbf := hbf.upd a39 nf__12
    have hb_6 := hb_6.upd a39 n_6__12
    have hb_9 := hb_9.upd a39 n_9__12
    have hb_11 := hb_11.upd a39 n_11__12
    have hb_12 : Has w39 b_12 ((b.below y.n).cells) _ := hb_12
    refine RL.nil (RC.back ?_)
    refine RC.cutx (α := Nat × Nat) (fun m_ => [(0, .pointer (some ⟨bf, 0, none⟩)), (3, .int .i64 left), (9, .pointer (some ⟨b_9, 0, none⟩)), (11, .pointer (some ⟨b_11, 0, none⟩)), (13, .pointer (some ⟨m_.1, 0, none⟩)), (14, .pointer (some ⟨m_.2, 0, none⟩))]) (fun m_ w40 => (bf ≠ m_.1 ∧ bf ≠ m_.2 ∧ b_9 ≠ m_.1 ∧ b_9 ≠ m_.2 ∧ b_11 ≠ m_.1 ∧ b_11 ≠ m_.2 ∧ m_.1 ≠ m_.2 ∧ w.heap.size ≤ m_.1 ∧ w.heap.size ≤ m_.2) ∧ Has w40 bf (frC na fa nc fc A bad) 80 ∧ Has w40 b_9 y.cells 69 ∧ Has w40 b_11 (bare1 y y.k0 y.k1).cells 69 ∧ Has w40 m_.1 (b.below y.n).cells 91 ∧ Has w40 m_.2 (b.below y.n).cells 91 ∧ Sub w w40) ?_ (fun m_ w40 hJ => ?_)
    ·
      refine RC.drawD (fun k => False) [4, 5] w39.heap.size 6 rfl rfl mxo (fun w41 s42 => ?_)
      have hNN : ∀ k, ((False) ∨ w39.heap.size ≤ k) → w.heap.size ≤ k := fun k e => e.elim (fun e => e.elim) (fun e => Nat.le_trans S.size e)
      have ent_S := S.size
      have hN0 : ∀ k, w39.heap.size ≤ k → w.heap.size ≤ k := fun k e => Nat.le_trans S.size e
      have ltD_bf := hbf.lt
      have ltD_b_6 := hb_6.lt
      have ltD_b_9 := hb_9.lt
      have ltD_b_11 := hb_11.lt
      have ltD_b_12 := hb_12.lt
      have szD := Nat.le_refl w39.heap.size
      have S := S.trans s42
      have hbf := hbf.sub s42
      have hb_6 := hb_6.sub s42
      have hb_9 := hb_9.sub s42
      have hb_11 := hb_11.sub s42
      have hb_12 := hb_12.sub s42
      have szD := Nat.le_trans szD s42.size
      refine RD.take 0 rfl (by kernel_rfl) (by kernel_rfl) (by kernel_rfl) (fun w' s' => .loadR ((b.below y.n).cells) sh91 rfl (hb_12.step s' (fun e => e.elim (fun e => e.elim) (fun e => Nat.not_le.2 ltD_b_12 e))).row rfl) rfl rfl ?_
      refine RD.take 1 rfl (by kernel_rfl) (by kernel_rfl) (by kernel_rfl) (fun w' s' => .loadR ((b.below y.n).cells) sh91 rfl (hb_12.step s' (fun e => e.elim (fun e => e.elim) (fun e => Nat.not_le.2 ltD_b_12 e))).row rfl) rfl rfl ?_
      refine RD.all [2, 3] (by kernel_rfl) rfl (RDs.cons rfl ?_ (RDs.cons rfl ?_ (RDs.nil)))
      ·
        refine RL.alloc ze91 rfl rfl (fun b_13 w_13 e_13 z_13 hb_13 s_13 => ?_)
        have fr_b_13 : w39.heap.size ≤ b_13 := by rw [e_13]; exact szD
        have ge_13 := S.le e_13
        have nf__13 := hbf.ne e_13
        have n_6__13 := hb_6.ne e_13
        have n_9__13 := hb_9.ne e_13
        have n_11__13 := hb_11.ne e_13
        have n_12__13 := hb_12.ne e_13
        have S := S.trans s_13
        have hbf := hbf.sub s_13
        have hb_6 := hb_6.sub s_13
        have hb_9 := hb_9.sub s_13
        have hb_11 := hb_11.sub s_13
        have hb_12 := hb_12.sub s_13
        have szD := Nat.le_trans szD s_13.size
        refine RD.back s_13.agr ?_
        refine RD.all [3] (by kernel_rfl) rfl (RDs.cons rfl ?_ (RDs.nil))
        refine RL.alloc ze91 rfl rfl (fun b_14 w_14 e_14 z_14 hb_14 s_14 => ?_)
        have fr_b_14 : w39.heap.size ≤ b_14 := by rw [e_14]; exact szD
        have ge_14 := S.le e_14
        have nf__14 := hbf.ne e_14
        have n_6__14 := hb_6.ne e_14
        have n_9__14 := hb_9.ne e_14
        have n_11__14 := hb_11.ne e_14
        have n_12__14 := hb_12.ne e_14
        have n_13__14 := hb_13.ne e_14
        have S := S.trans s_14
        have hbf := hbf.sub s_14
        have hb_6 := hb_6.sub s_14
        have hb_9 := hb_9.sub s_14
        have hb_11 := hb_11.sub s_14
        have hb_12 := hb_12.sub s_14
        have szD := Nat.le_trans szD s_14.size
        have hb_13 := hb_13.sub s_14
        refine RD.back s_14.agr ?_
        refine RD.all [4] (by kernel_rfl) rfl (RDs.cons rfl ?_ (RDs.nil))
        refine RL.store sh91 rfl rfl rfl hb_13 (by exact Nat.le_of_ble_eq_true rfl) (by rfl) rfl (fun w43 z43 hb_13 a43 => ?_)
        have S := S.upd a43 ge_13
        have hbf := hbf.upd a43 nf__13
        have hb_6 := hb_6.upd a43 n_6__13
        have hb_9 := hb_9.upd a43 n_9__13
        have hb_11 := hb_11.upd a43 n_11__13
        have hb_12 := hb_12.upd a43 n_12__13
        have szD := Nat.le_trans szD a43.size
        have hb_14 := hb_14.upd a43 n_13__14.symm
        have hb_13 : Has w43 b_13 ((b.below y.n).cells) _ := hb_13.now (by kernel_rfl)
        refine RD.backW rfl (a43.mono fun k _ e => e ▸ (.inr fr_b_13)) ?_
        refine RD.all [5] (by kernel_rfl) rfl (RDs.cons rfl ?_ (RDs.nil))
        refine RL.store sh91 rfl rfl rfl hb_14 (by exact Nat.le_of_ble_eq_true rfl) (by rfl) rfl (fun w44 z44 hb_14 a44 => ?_)
        have S := S.upd a44 ge_14
        have hbf := hbf.upd a44 nf__14
        have hb_6 := hb_6.upd a44 n_6__14
        have hb_9 := hb_9.upd a44 n_9__14
        have hb_11 := hb_11.upd a44 n_11__14
        have hb_12 := hb_12.upd a44 n_12__14
        have szD := Nat.le_trans szD a44.size
        have hb_13 := hb_13.upd a44 n_13__14
        have hb_14 : Has w44 b_14 ((b.below y.n).cells) _ := hb_14.now (by kernel_rfl)
        refine RD.backW rfl (a44.mono fun k _ e => e ▸ (.inr fr_b_14)) ?_
        exact RD.done (by kernel_rfl) (fun a ka => ⟨(b_13, b_14), ⟨⟨nf__13, nf__14, n_9__13, n_9__14, n_11__13, n_11__14, (by first | exact n_13__14 | exact n_14__13.symm), ge_13, ge_14⟩, hbf, hb_9, hb_11, hb_13, hb_14, S⟩, ka.keep (keep_of (by repeat (first | exact trivial | refine And.intro rfl ?_)))⟩)
      ·
        refine RL.alloc ze91 rfl rfl (fun b_14 w_14 e_14 z_14 hb_14 s_14 => ?_)
        have fr_b_14 : w39.heap.size ≤ b_14 := by rw [e_14]; exact szD
        have ge_14 := S.le e_14
        have nf__14 := hbf.ne e_14
        have n_6__14 := hb_6.ne e_14
        have n_9__14 := hb_9.ne e_14
        have n_11__14 := hb_11.ne e_14
        have n_12__14 := hb_12.ne e_14
        have S := S.trans s_14
        have hbf := hbf.sub s_14
        have hb_6 := hb_6.sub s_14
        have hb_9 := hb_9.sub s_14
        have hb_11 := hb_11.sub s_14
        have hb_12 := hb_12.sub s_14
        have szD := Nat.le_trans szD s_14.size
        refine RD.back s_14.agr ?_
        refine RD.all [2] (by kernel_rfl) rfl (RDs.cons rfl ?_ (RDs.nil))
        refine RL.alloc ze91 rfl rfl (fun b_13 w_13 e_13 z_13 hb_13 s_13 => ?_)
        have fr_b_13 : w39.heap.size ≤ b_13 := by rw [e_13]; exact szD
        have ge_13 := S.le e_13
        have nf__13 := hbf.ne e_13
        have n_6__13 := hb_6.ne e_13
        have n_9__13 := hb_9.ne e_13
        have n_11__13 := hb_11.ne e_13
        have n_12__13 := hb_12.ne e_13
        have n_14__13 := hb_14.ne e_13
        have S := S.trans s_13
        have hbf := hbf.sub s_13
        have hb_6 := hb_6.sub s_13
        have hb_9 := hb_9.sub s_13
        have hb_11 := hb_11.sub s_13
        have hb_12 := hb_12.sub s_13
        have szD := Nat.le_trans szD s_13.size
        have hb_14 := hb_14.sub s_13
        refine RD.back s_13.agr ?_
        refine RD.all [4] (by kernel_rfl) rfl (RDs.cons rfl ?_ (RDs.nil))
        refine RL.store sh91 rfl rfl rfl hb_13 (by exact Nat.le_of_ble_eq_true rfl) (by rfl) rfl (fun w45 z45 hb_13 a45 => ?_)
        have S := S.upd a45 ge_13
        have hbf := hbf.upd a45 nf__13
        have hb_6 := hb_6.upd a45 n_6__13
        have hb_9 := hb_9.upd a45 n_9__13
        have hb_11 := hb_11.upd a45 n_11__13
        have hb_12 := hb_12.upd a45 n_12__13
        have szD := Nat.le_trans szD a45.size
        have hb_14 := hb_14.upd a45 n_14__13
        have hb_13 : Has w45 b_13 ((b.below y.n).cells) _ := hb_13.now (by kernel_rfl)
        refine RD.backW rfl (a45.mono fun k _ e => e ▸ (.inr fr_b_13)) ?_
        refine RD.all [5] (by kernel_rfl) rfl (RDs.cons rfl ?_ (RDs.nil))
        refine RL.store sh91 rfl rfl rfl hb_14 (by exact Nat.le_of_ble_eq_true rfl) (by rfl) rfl (fun w46 z46 hb_14 a46 => ?_)
        have S := S.upd a46 ge_14
        have hbf := hbf.upd a46 nf__14
        have hb_6 := hb_6.upd a46 n_6__14
        have hb_9 := hb_9.upd a46 n_9__14
        have hb_11 := hb_11.upd a46 n_11__14
        have hb_12 := hb_12.upd a46 n_12__14
        have szD := Nat.le_trans szD a46.size
        have hb_13 := hb_13.upd a46 n_14__13.symm
        have hb_14 : Has w46 b_14 ((b.below y.n).cells) _ := hb_14.now (by kernel_rfl)
        refine RD.backW rfl (a46.mono fun k _ e => e ▸ (.inr fr_b_14)) ?_
        exact RD.done (by kernel_rfl) (fun a ka => ⟨(b_13, b_14), ⟨⟨nf__13, nf__14, n_9__13, n_9__14, n_11__13, n_11__14, (by first | exact n_13__14 | exact n_14__13.symm), ge_13, ge_14⟩, hbf, hb_9, hb_11, hb_13, hb_14, S⟩, ka.keep (keep_of (by repeat (first | exact trivial | refine And.intro rfl ?_)))⟩)
    obtain ⟨b_13, b_14⟩ := m_
    obtain ⟨⟨nf__13, nf__14, n_9__13, n_9__14, n_11__13, n_11__14, n_13__14, ge_13, ge_14⟩, hbf, hb_9, hb_11, hb_13, hb_14, S⟩ := hJ
    simp only [] at nf__13 nf__14 n_9__13 n_9__14 n_11__13 n_11__14 n_13__14 ge_13 ge_14 hb_13 hb_14
    refine RC.seq ?_
    refine RC.region rfl ?_
    refine RL.ev (.field0 fo69_2 rfl) rfl rfl ?_
    refine RL.ev (.load1 sh2 rfl (hb_9.cell rfl)) rfl rfl ?_
    refine RL.ev (.field0 fo91_1 rfl) rfl rfl ?_
    refine RL.store sh2 rfl rfl rfl hb_13 (by exact Nat.le_of_ble_eq_true rfl) (by rfl) rfl (fun w47 z47 hb_13 a47 => ?_)
    have S := S.upd a47 ge_13
    have hbf := hbf.upd a47 nf__13
    have hb_9 := hb_9.upd a47 n_9__13
    have hb_11 := hb_11.upd a47 n_11__13
    have hb_14 := hb_14.upd a47 n_13__14.symm
    refine RL.ev (.field0 fo91_3 rfl) rfl rfl ?_
    refine RL.store sh4 rfl rfl rfl hb_13 (by exact Nat.le_of_ble_eq_true rfl) (by rfl) rfl (fun w48 z48 hb_13 a48 => ?_)
    have S := S.upd a48 ge_13
    have hbf := hbf.upd a48 nf__13
    have hb_9 := hb_9.upd a48 n_9__13
    have hb_11 := hb_11.upd a48 n_11__13
    have hb_14 := hb_14.upd a48 n_13__14.symm
    have hb_13 : Has w48 b_13 ((b.lo y.n).cells) _ := hb_13
    refine RL.nil (RC.back ?_)
    refine RC.seq ?_
    refine RC.region rfl ?_
    refine RL.ev (.field0 fo69_2 rfl) rfl rfl ?_
    refine RL.ev (.load1 sh2 rfl (hb_9.cell rfl)) rfl rfl ?_
    refine RL.ev (.field0 fo91_0 rfl) rfl rfl ?_
    refine RL.store sh2 rfl rfl rfl hb_14 (by exact Nat.le_of_ble_eq_true rfl) (by rfl) rfl (fun w49 z49 hb_14 a49 => ?_)
    have S := S.upd a49 ge_14
    have hbf := hbf.upd a49 nf__14
    have hb_9 := hb_9.upd a49 n_9__14
    have hb_11 := hb_11.upd a49 n_11__14
    have hb_13 := hb_13.upd a49 n_13__14
    refine RL.ev (.field0 fo91_2 rfl) rfl rfl ?_
    refine RL.store sh4 rfl rfl rfl hb_14 (by exact Nat.le_of_ble_eq_true rfl) (by rfl) rfl (fun w50 z50 hb_14 a50 => ?_)
    have S := S.upd a50 ge_14
    have hbf := hbf.upd a50 nf__14
    have hb_9 := hb_9.upd a50 n_9__14
    have hb_11 := hb_11.upd a50 n_11__14
    have hb_13 := hb_13.upd a50 n_13__14
    have hb_14 : Has w50 b_14 ((b.hi y.n).cells) _ := hb_14
    refine RL.nil (RC.back ?_)
    refine RC.seq ?_
    refine RC.region rfl ?_
    refine RL.ev (.move rfl) rfl rfl ?_
    refine RL.ev (.field0 fo69_5 rfl) rfl rfl ?_
    refine RL.ev (.indexArr ar67 rfl rfl (by omega)) rfl rfl ?_
    refine RL.ev (.load1 sh30 rfl (hb_9.cell rfl)) rfl rfl ?_
    refine RL.ev (.loadR ((b.lo y.n).cells) sh91 rfl hb_13.row rfl) rfl rfl ?_
    refine RL.ev (.move rfl) rfl rfl ?_
    refine RL.ev (.as (.bin rfl rfl rfl) (wi64 (y := left - 1) (by rfl) (by omega))) rfl rfl ?_
    refine RL.call rfl ok40 (ih y.k0 (b.lo y.n) (left - 1) w50 ((hA.nok y (getA_nok hy)).kids _ (by simp [Node.kids])) (by omega) (by omega) (by omega) hbf (hA.sub S)) rfl rfl ?_
    rintro _ w51 ⟨rfl, s52⟩
    have S := S.trans s52
    have hbf := hbf.sub s52
    have hb_9 := hb_9.sub s52
    have hb_11 := hb_11.sub s52
    have hb_13 := hb_13.sub s52
    have hb_14 := hb_14.sub s52
    obtain ⟨p, hp⟩ : ∃ p, mayF A k y.k0 (b.lo y.n) (left - 1) = p := ⟨_, rfl⟩
    have hple := mayF_le A k y.k0 (b.lo y.n) (left - 1) (by omega)
    rw [hp] at hple
    refine RL.ev (.as (v' := .int .i64 p) (.assign rfl) (by rw [hp])) rfl rfl ?_
    refine RL.nil (RC.back ?_)
    refine RC.seq ?_
    refine RC.seq ?_
    refine RC.region rfl ?_
    refine RL.ev (.move rfl) rfl rfl ?_
    refine RL.ev (.bin rfl rfl rfl) rfl rfl ?_
    refine RL.ev (.move rfl) rfl rfl ?_
    refine RL.split 119 rfl (fun h53 => ?_) (fun h53 => ?_)
    ·
      have hres := mayF_left (k := k) hr0 hy hnb (.inl (by rw [hp]; exact h53))
      refine RL.off rfl rfl ?_
      refine RL.off rfl rfl ?_
      refine RL.off rfl rfl ?_
      refine RL.ev (.pick_t rfl rfl) rfl rfl ?_
      refine RL.nil (RC.back ?_)
      refine RC.cond_t rfl ?_
      refine RC.seq ?_
      refine RC.region rfl ?_
      refine RL.ev (.assign rfl) rfl rfl ?_
      refine RL.nil (RC.back ?_)
      refine RC.done (rs := [.tmp 8]) (vs := [_]) rfl rfl ⟨rfl, trivial⟩ ?_
      -- end 12
      exact ⟨congrArg (Value.int .i64) hres.symm, S⟩
    ·
      have hp0 := h53
      refine RL.ev (.loadR ((bare1 y y.k0 y.k1).cells) sh69 rfl hb_11.row rfl) rfl rfl ?_
      refine RL.ev (.loadR (y.cells) sh69 rfl hb_9.row rfl) rfl rfl ?_
      refine RL.ev (.neS (xs := (bare1 y y.k0 y.k1).cells) (ys := y.cells) fk69 eg69 sh69 rfl rfl rfl rfl rfl) rfl rfl ?_
      refine RL.ev (.pick_f rfl rfl) rfl rfl ?_
      refine RL.nil (RC.back ?_)
      refine RC.cond rfl (fun h54 => ?_) (fun h54 => ?_)
      ·
        have hres := mayF_left (k := k) hr0 hy hnb (.inr (fun e => by have h2 := h54; rw [eqL_cells, decide_eq_true ((bare1_iff hk1).2 e)] at h2; cases h2))
        refine RC.seq ?_
        refine RC.region rfl ?_
        refine RL.ev (.assign rfl) rfl rfl ?_
        refine RL.nil (RC.back ?_)
        refine RC.done (rs := [.tmp 8]) (vs := [_]) rfl rfl ⟨rfl, trivial⟩ ?_
        -- end 13
        exact ⟨congrArg (Value.int .i64) hres.symm, S⟩
      ·
        have hbr : tBare y = y := (bare1_iff hk1).1 (by have h2 := h54; rw [eqL_cells] at h2; simpa using h2)
        refine RC.skip (RC.back ?_)
        refine RC.seq ?_
        refine RC.region rfl ?_
        refine RL.ev (.move rfl) rfl rfl ?_
        refine RL.ev (.field0 fo69_5 rfl) rfl rfl ?_
        refine RL.ev (.indexArr ar67 rfl rfl (by omega)) rfl rfl ?_
        refine RL.ev (.load1 sh30 rfl (hb_9.cell rfl)) rfl rfl ?_
        refine RL.ev (.loadR ((b.hi y.n).cells) sh91 rfl hb_14.row rfl) rfl rfl ?_
        refine RL.ev (.move rfl) rfl rfl ?_
        refine RL.ev (.as (.bin rfl rfl rfl) (wi64 (y := left - 1) (by rfl) (by omega))) rfl rfl ?_
        refine RL.ev (.move rfl) rfl rfl ?_
        refine RL.ev (.as (.bin rfl rfl rfl) (wi64 (y := left - 1 - p) (by rfl) (by omega))) rfl rfl ?_
        refine RL.call rfl ok40 (ih y.k1 (b.hi y.n) (left - 1 - p) w51 ((hA.nok y (getA_nok hy)).kids _ (by simp [Node.kids])) (by omega) (by omega) (by omega) hbf (hA.sub S)) rfl rfl ?_
        rintro _ w55 ⟨rfl, s56⟩
        have S := S.trans s56
        have hbf := hbf.sub s56
        have hb_9 := hb_9.sub s56
        have hb_11 := hb_11.sub s56
        have hb_13 := hb_13.sub s56
        have hb_14 := hb_14.sub s56
        obtain ⟨q, hq⟩ : ∃ q, mayF A k y.k1 (b.hi y.n) (left - 1 - p) = q := ⟨_, rfl⟩
        have hqle := mayF_le A k y.k1 (b.hi y.n) (left - 1 - p) (by omega)
        rw [hq] at hqle
        have hpn : ¬ (p < 0 ∨ ¬ tBare y = y) := (fun e => e.elim hp0 (fun e => e hbr))
        refine RL.ev (.as (v' := .int .i64 q) (.assign rfl) (by rw [hq])) rfl rfl ?_
        refine RL.nil (RC.back ?_)
        refine RC.seq ?_
        refine RC.seq ?_
        refine RC.region rfl ?_
        refine RL.ev (.move rfl) rfl rfl ?_
        refine RL.ev (.bin rfl rfl rfl) rfl rfl ?_
        refine RL.ev (.move rfl) rfl rfl ?_
        refine RL.split 136 rfl (fun h57 => ?_) (fun h57 => ?_)
        ·
          have hres := mayF_right (k := k) hr0 hy hnb hp hpn hq (.inl h57)
          refine RL.off rfl rfl ?_
          refine RL.off rfl rfl ?_
          refine RL.off rfl rfl ?_
          refine RL.off rfl rfl ?_
          refine RL.off rfl rfl ?_
          refine RL.off rfl rfl ?_
          refine RL.off rfl rfl ?_
          refine RL.ev (.pick_t rfl rfl) rfl rfl ?_
          refine RL.nil (RC.back ?_)
          refine RC.cond_t rfl ?_
          refine RC.seq ?_
          refine RC.region rfl ?_
          refine RL.ev (.assign rfl) rfl rfl ?_
          refine RL.nil (RC.back ?_)
          refine RC.done (rs := [.tmp 8]) (vs := [_]) rfl rfl ⟨rfl, trivial⟩ ?_
          -- end 14
          exact ⟨congrArg (Value.int .i64) hres.symm, S⟩
        ·
          have hq0 := h57
          refine RL.ev (.move rfl) rfl rfl ?_
          refine RL.ev (.move rfl) rfl rfl ?_
          refine RL.ev (.as (.bin rfl rfl rfl) (wi64 (y := p + q) (by rfl) (by omega))) rfl rfl ?_
          refine RL.ev (.as (.bin rfl rfl rfl) (wi64 (y := p + q + 1) (by rfl) (by omega))) rfl rfl ?_
          refine RL.ev (.field0 fo69_4 rfl) rfl rfl ?_
          refine RL.ev (.load1 sh2 rfl (hb_9.cell rfl)) rfl rfl ?_
          refine RL.ev (.bin rfl rfl rfl) rfl rfl ?_
          refine RL.ev (.pick_f rfl rfl) rfl rfl ?_
          refine RL.nil (RC.back ?_)
          refine RC.cond_dec rfl (fun h58 => ?_) (fun h58 => ?_)
          ·
            have hres := mayF_right (k := k) hr0 hy hnb hp hpn hq (.inr h58)
            refine RC.seq ?_
            refine RC.region rfl ?_
            refine RL.ev (.assign rfl) rfl rfl ?_
            refine RL.nil (RC.back ?_)
            refine RC.done (rs := [.tmp 8]) (vs := [_]) rfl rfl ⟨rfl, trivial⟩ ?_
            -- end 15
            exact ⟨congrArg (Value.int .i64) hres.symm, S⟩
          ·
            have hres := mayF_yes (k := k) hr0 hy hnb hp hpn hq (fun e => e.elim hq0 (fun e => h58 e))
            refine RC.skip (RC.back ?_)
            refine RC.seq ?_
            refine RC.region rfl ?_
            refine RL.ev (.move rfl) rfl rfl ?_
            refine RL.ev (.move rfl) rfl rfl ?_
            refine RL.ev (.as (.bin rfl rfl rfl) (wi64 (y := p + q) (by rfl) (by omega))) rfl rfl ?_
            refine RL.ev (.as (.bin rfl rfl rfl) (wi64 (y := p + q + 1) (by rfl) (by omega))) rfl rfl ?_
            refine RL.ev (.assign rfl) rfl rfl ?_
            refine RL.nil (RC.back ?_)
            refine RC.done (rs := [.tmp 8]) (vs := [_]) rfl rfl ⟨rfl, trivial⟩ ?_
            -- end 16
            exact ⟨congrArg (Value.int .i64) hres.symm, S⟩
end Go.Proofs.Ytdmaogopibljoaa
