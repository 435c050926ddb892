/-
  The statement ArenaMakes.
-/
import Derived.Test.YtfcmbojlflgpmaaArenaLaws
set_option linter.unusedVariables false
set_option linter.unusedSimpArgs false
namespace Go.Proofs.Ytfcmbojlflgpmaa
open Go Go.XL

theorem ar0_I (w w' : World) (na fa : Option Addr) (A : Ar) : ArI w w' na fa A none none ar0 := fun N _ _ u _ => ⟨Sl.nil _ _ _, Sl.nil _ _ _, by simp [ar0], by simp [ar0]⟩
/-- what is answered of a call, in one form -/
theorem make_form {A : Ar} {x : Node} {w w' : World} {na fa : Option Addr} {v : Value} (h : ¬ mayMake A x ∧ v = .tuple #[arV0, .int .u64 0, .int .i64 1] ∨ mayMake A x ∧ A.free.length = 0 ∧ v = .tuple #[arV0, .int .u64 0, .int .i64 2] ∨
      mayMake A x ∧ 0 < A.free.length ∧ ∃ av, v = .tuple #[av, .int .u64 (makeR A), .int .i64 0] ∧ ArO w w' na fa A av (makeA A x)) :
    ∃ na' fa' nc' fc' B r e, v = .tuple #[arV na' fa' nc' fc' B, .int .u64 r, .int .i64 e] ∧ B.nodes.length ≤ nc' ∧ B.free.length ≤ fc' ∧ ArI w w' na fa A na' fa' B ∧
      (e = 0 → mayMake A x ∧ 0 < A.free.length ∧ B = makeA A x ∧ r = makeR A) ∧ (¬ e = 0 → B = ar0 ∧ r = 0 ∧ (¬ mayMake A x ∧ e = 1 ∨ mayMake A x ∧ A.free.length = 0 ∧ e = 2)) := by
  rcases h with ⟨h1, rfl⟩ | ⟨h1, h2, rfl⟩ | ⟨h1, h2, av, rfl, na', fa', nc', fc', rfl, h3, h4, h5⟩
  · exact ⟨none, none, 0, 0, ar0, 0, 1, rfl, by decide, by decide, ar0_I _ _ _ _ _, fun h => absurd h (by decide), fun _ => ⟨rfl, rfl, .inl ⟨h1, rfl⟩⟩⟩
  · exact ⟨none, none, 0, 0, ar0, 0, 2, rfl, by decide, by decide, ar0_I _ _ _ _ _, fun h => absurd h (by decide), fun _ => ⟨rfl, rfl, .inr ⟨h1, h2, rfl⟩⟩⟩
  · exact ⟨na', fa', nc', fc', _, _, 0, rfl, h3, h4, h5, fun _ => ⟨h1, h2, rfl, rfl⟩, fun h => absurd rfl h⟩
theorem drop_form {A : Ar} {l : List Int} {w w' : World} {na fa : Option Addr} {v : Value} (h : (¬ AOk A ∨ dropAll A l = none) ∧ v = .tuple #[arV0, .int .i64 1] ∨ AOk A ∧ ∃ A' av, dropAll A l = some A' ∧ v = .tuple #[av, .int .i64 0] ∧ ArO w w' na fa A av A') :
    ∃ na' fa' nc' fc' B e, v = .tuple #[arV na' fa' nc' fc' B, .int .i64 e] ∧ B.nodes.length ≤ nc' ∧ B.free.length ≤ fc' ∧ ArI w w' na fa A na' fa' B ∧
      (e = 0 → AOk A ∧ dropAll A l = some B) ∧ (¬ e = 0 → B = ar0 ∧ e = 1 ∧ (¬ AOk A ∨ dropAll A l = none)) := by
  rcases h with ⟨h1, rfl⟩ | ⟨h1, A', av, h2, rfl, na', fa', nc', fc', rfl, h3, h4, h5⟩
  · exact ⟨none, none, 0, 0, ar0, 1, rfl, by decide, by decide, ar0_I _ _ _ _ _, fun h => absurd h (by decide), fun _ => ⟨rfl, rfl, h1⟩⟩
  · exact ⟨na', fa', nc', fc', A', 0, rfl, h3, h4, h5, fun _ => ⟨h1, h2⟩, fun h => absurd rfl h⟩
/-- one place that is dropped -/
theorem drop_one {A B : Ar} {p : Int} (h : dropAll A [p] = some B) : dropStep A p = some B := by
  simp only [dropAll] at h
  cases h1 : dropStep A p with
  | none => rw [h1] at h; cases h
  | some B' => rw [h1] at h; simpa [dropAll] using h
theorem drop_one_no {A : Ar} {p : Int} (h : dropAll A [p] = none) : dropStep A p = none := by
  simp only [dropAll] at h
  cases h1 : dropStep A p with
  | none => rfl
  | some B' => rw [h1] at h; cases h
theorem dropStep_inv {A B : Ar} {p : Int} (h : dropStep A p = some B) : 0 ≤ p ∧ p < A.nodes.length ∧ ∃ y, A.nodes[p.toNat]? = some y ∧ ¬ y.kind = 0 ∧ B = ⟨A.nodes.set p.toNat (bareN ((y.gen + 1) % 1048577)), A.free ++ [p]⟩ := by
  unfold dropStep at h
  split at h
  · rename_i hp
    split at h
    · cases h
    · rename_i y hy
      split at h
      · cases h
      · rename_i hk
        cases h
        exact ⟨hp.1, hp.2, y, hy, hk, rfl⟩
  · cases h
theorem dropStep_none {A : Ar} {p : Int} (h : dropStep A p = none) : p < 0 ∨ A.nodes.length ≤ p ∨ ∃ y, A.nodes[p.toNat]? = some y ∧ y.kind = 0 := by
  by_cases hp : 0 ≤ p ∧ p < A.nodes.length
  · obtain ⟨y, hy⟩ := getSome (l := A.nodes) (i := p.toNat) (by omega)
    rw [dropStep_at hp hy] at h
    split at h
    · exact .inr (.inr ⟨y, hy, ‹_›⟩)
    · cases h
  · omega

theorem law_ArenaMakes (w : World) (A : Ar) (na fa : Option Addr) (nc fc : Nat) (hnc : A.nodes.length ≤ nc) (hfc : A.free.length ≤ fc) (hA : ArR w na fa A) (x : Node) (hx : x.ok) (p : Int) (wp : (Lit.int .i64 p).wf = true) :
    FC Try.prog 6 [arV na fa nc fc A, x.val, .int .i64 p] w (Val (.bool true) w) := by
  have hp := wfI wp
  have hfN : (fewA A).nodes.length ≤ nc := by simp only [fewA, List.length_take]; omega
  have hfF : (fewA A).free.length ≤ fc := by simp only [fewA, List.length_take]; omega
  have hf40 : (fewA A).nodes.length ≤ 40 := by simp only [fewA, List.length_take]; omega
  have hf42 : (fewA A).free.length ≤ 42 := by simp only [fewA, List.length_take]; omega
  refine FC.intro Try.func6 rfl Try.ntmps6 rfl ?_
  have S := Sub.refl w
  have nb := NB.nil w
  have hI : Imm (fun _ => False) (fun u => ArR u na fa (fewA A)) w := fun u hu => fewA_R (hA.sub hu.sub)
  refine RC.seq ?_
  refine RC.region rfl ?_
  refine RL.box rfl rfl rfl (fun b_3 w_3 e_3 z_3 hb_3 s_3 => ?_)
  have ge_3 := S.le e_3
  have S := S.trans s_3
  have nb := nb.add s_3 e_3 z_3
  have hI := hI.add s_3 e_3
  have hb_3 : Has w_3 b_3 ([.slice na A.nodes.length nc, .slice fa A.free.length fc]) _ := hb_3
  refine RL.box rfl rfl rfl (fun b_4 w_4 e_4 z_4 hb_4 s_4 => ?_)
  have ge_4 := S.le e_4
  have n_3__4 := hb_3.ne e_4
  have S := S.trans s_4
  have nb := nb.sub s_4
  have hI := hI.sub s_4
  have hb_3 := hb_3.sub s_4
  have hb_4 : Has w_4 b_4 (x.cells) _ := hb_4
  refine RL.ev (.assign rfl) rfl rfl ?_
  refine RL.nil (RC.back ?_)
  refine RC.seq ?_
  refine RC.region rfl ?_
  refine RL.ev (.loadR ([.slice na A.nodes.length nc, .slice fa A.free.length fc]) sh25 rfl hb_3.row rfl) rfl rfl ?_
  refine RL.call rfl ok9 (c_few A na fa nc fc hnc hfc w_4) rfl rfl ?_
  rintro _ w1 ⟨rfl, s2⟩
  have S := S.trans s2
  have nb := nb.sub s2
  have hI := hI.sub s2
  have hb_3 := hb_3.sub s2
  have hb_4 := hb_4.sub s2
  refine RL.store sh25 rfl rfl rfl hb_3 (by exact Nat.le_of_ble_eq_true rfl) (by rfl) rfl (fun w3 z3 hb_3 a3 => ?_)
  have S := S.upd a3 ge_3
  have nb := nb.upd a3
  have hI := hI.upd a3 (.inr rfl)
  have hb_4 := hb_4.upd a3 n_3__4.symm
  have hb_3 : Has w3 b_3 ([.slice na (fewA A).nodes.length nc, .slice fa (fewA A).free.length fc]) _ := hb_3.now (by kernel_rfl)
  refine RL.nil (RC.back ?_)
  refine RC.seq ?_
  refine RC.region rfl ?_
  refine RL.ev (.loadR ([.slice na (fewA A).nodes.length nc, .slice fa (fewA A).free.length fc]) sh25 rfl hb_3.row rfl) rfl rfl ?_
  refine RL.ev (.loadR (x.cells) sh35 rfl hb_4.row rfl) rfl rfl ?_
  refine RL.call rfl ok17 (c_aMake (fewA A) na fa nc fc x hx w3 hI.now hfF) rfl rfl ?_
  rintro _ w4 ⟨s5, hr⟩
  obtain ⟨nb', fb', ncb, fcb, B, r, e, rfl, hnB, hfB, hiB, he0, he1⟩ := make_form hr
  have hB := hiB _ nb hI
  have S := S.trans s5
  have nb := nb.sub s5
  have hI := hI.sub s5
  have hb_3 := hb_3.sub s5
  have hb_4 := hb_4.sub s5
  refine RL.ev (.move rfl) rfl rfl ?_
  refine RL.ev (.extract rfl rfl) rfl rfl ?_
  refine RL.ev (.extract rfl rfl) rfl rfl ?_
  refine RL.ev (.extract rfl rfl) rfl rfl ?_
  refine RL.alloc ze25 rfl rfl (fun b_7 w_7 e_7 z_7 hb_7 s_7 => ?_)
  have ge_7 := S.le e_7
  have n_3__7 := hb_3.ne e_7
  have n_4__7 := hb_4.ne e_7
  have S := S.trans s_7
  have nb := nb.add s_7 e_7 z_7
  have hI := hI.add s_7 e_7
  have hb_3 := hb_3.sub s_7
  have hb_4 := hb_4.sub s_7
  have hB := hB.add s_7 e_7
  refine RL.store sh25 rfl rfl rfl hb_7 (by exact Nat.le_of_ble_eq_true rfl) (by rfl) rfl (fun w6 z6 hb_7 a6 => ?_)
  have S := S.upd a6 ge_7
  have nb := nb.upd a6
  have hI := hI.upd a6 (.inr rfl)
  have hb_3 := hb_3.upd a6 n_3__7
  have hb_4 := hb_4.upd a6 n_4__7
  have hB := hB.upd a6 (.inr rfl)
  have hb_7 : Has w6 b_7 ([.slice nb' B.nodes.length ncb, .slice fb' B.free.length fcb]) _ := hb_7.now (by kernel_rfl)
  refine RL.ev (.assign rfl) rfl rfl ?_
  refine RL.ev (.assign rfl) rfl rfl ?_
  refine RL.nil (RC.back ?_)
  refine RC.seq ?_
  refine RC.seq ?_
  refine RC.region rfl ?_
  refine RL.ev (.move rfl) rfl rfl ?_
  refine RL.ev (.bin rfl rfl rfl) rfl rfl ?_
  refine RL.nil (RC.back ?_)
  refine RC.cond_dec rfl (fun h7 => ?_) (fun h7 => ?_)
  ·
    obtain ⟨hm, hpos, hBe, hre⟩ := he0 h7
    have hok0 := hm.1
    have hla := lastAt_in hok0 hpos
    have hga := genAt_rng hok0 hla
    have hBl : B.nodes.length = (fewA A).nodes.length := (by rw [hBe]; simp [makeA])
    have hBf : B.free.length = (fewA A).free.length - 1 := (by rw [hBe]; simp [makeA])
    have hrr : r = genAt (fewA A) (lastAt (fewA A)) * 65536 + lastAt (fewA A) + 1 := hre
    obtain ⟨y, hy⟩ := getSome (l := (fewA A).nodes) (i := (lastAt (fewA A)).toNat) (by omega)
    have hyk : y.kind = 0 := (hok0.kind _ y hy).2 (by rw [Int.toNat_of_nonneg hla.1]; exact List.mem_of_getElem? (lastAt_get hpos))
    refine RC.seq ?_
    refine RC.region rfl ?_
    refine RL.ev (.move rfl) rfl rfl ?_
    refine RL.ev (.as (v' := .int .u64 (r % 65536)) (.rem rfl rfl (by decide)) (by rw [tmodE (by omega)])) rfl rfl ?_
    refine RL.ev (.as (.conv i32 i3 rfl) (wi64 (y := r % 65536) (by rfl) (by omega))) rfl rfl ?_
    refine RL.ev (.as (.bin rfl rfl rfl) (wi64 (y := lastAt (fewA A)) (by omega) (by omega))) rfl rfl ?_
    refine RL.ev (.assign rfl) rfl rfl ?_
    refine RL.nil (RC.back ?_)
    refine RC.seq ?_
    refine RC.seq ?_
    refine RC.region rfl ?_
    refine RL.ev (.field0 fo25_1 rfl) rfl rfl ?_
    refine RL.ev (.load1 sh23 rfl (hb_7.cell rfl)) rfl rfl ?_
    refine RL.ev (.len sl23 rfl) rfl rfl ?_
    refine RL.ev (.field0 fo25_1 rfl) rfl rfl ?_
    refine RL.ev (.load1 sh23 rfl (hb_3.cell rfl)) rfl rfl ?_
    refine RL.ev (.len sl23 rfl) rfl rfl ?_
    refine RL.ev (.as (.bin rfl rfl rfl) (wi64 (y := ((fewA A).free.length : Int) - 1) (by rfl) (by omega))) rfl rfl ?_
    refine RL.ev (.bin rfl rfl rfl) rfl rfl ?_
    refine RL.ev (.move rfl) rfl rfl ?_
    refine RL.split 40 rfl (fun h8 => ?_) (fun h8 => ?_)
    ·
      omega
    ·
      refine RL.ev (.field0 fo25_0 rfl) rfl rfl ?_
      refine RL.ev (.load1 sh22 rfl (hb_7.cell rfl)) rfl rfl ?_
      refine RL.ev (.len sl22 rfl) rfl rfl ?_
      refine RL.ev (.field0 fo25_0 rfl) rfl rfl ?_
      refine RL.ev (.load1 sh22 rfl (hb_3.cell rfl)) rfl rfl ?_
      refine RL.ev (.len sl22 rfl) rfl rfl ?_
      refine RL.ev (.bin rfl rfl rfl) rfl rfl ?_
      refine RL.ev (.pick_f rfl rfl) rfl rfl ?_
      refine RL.ev (.move rfl) rfl rfl ?_
      refine RL.split 49 rfl (fun h9 => ?_) (fun h9 => ?_)
      ·
        omega
      ·
        refine RL.ev (.move rfl) rfl rfl ?_
        refine RL.ev (.bin rfl rfl rfl) rfl rfl ?_
        refine RL.ev (.pick_f rfl rfl) rfl rfl ?_
        refine RL.ev (.move rfl) rfl rfl ?_
        refine RL.split 53 rfl (fun h10 => ?_) (fun h10 => ?_)
        ·
          omega
        ·
          refine RL.ev (.move rfl) rfl rfl ?_
          refine RL.ev (.field0 fo25_0 rfl) rfl rfl ?_
          refine RL.ev (.load1 sh22 rfl (hb_3.cell rfl)) rfl rfl ?_
          refine RL.ev (.len sl22 rfl) rfl rfl ?_
          refine RL.ev (.bin rfl rfl rfl) rfl rfl ?_
          refine RL.ev (.pick_f rfl rfl) rfl rfl ?_
          refine RL.ev (.move rfl) rfl rfl ?_
          refine RL.split 60 rfl (fun h11 => ?_) (fun h11 => ?_)
          ·
            omega
          ·
            refine RL.ev (.field0 fo25_0 rfl) rfl rfl ?_
            refine RL.ev (.load1 sh22 rfl (hb_3.cell rfl)) rfl rfl ?_
            refine RL.ev (.move rfl) rfl rfl ?_
            refine RL.ev (.indexS sl22 rfl rfl (by omega) (hI.now.nodes.is (i := 0) (by simp only [List.length_map]; omega))) rfl rfl ?_
            refine RL.ev (.fieldA fo35_0 rfl) rfl rfl ?_
            refine RL.ev (.load1 sh3 rfl (hI.now.nodes.cell (enc := Node.cells) (j := 0) hy rfl)) rfl rfl ?_
            refine RL.ev (.bin rfl rfl rfl) rfl rfl ?_
            refine RL.ev (.pick_f rfl rfl) rfl rfl ?_
            refine RL.nil (RC.back ?_)
            refine RC.cond_dec rfl (fun h12 => ?_) (fun h12 => ?_)
            ·
              omega
            ·
              refine RC.skip (RC.back ?_)
              refine RC.seq ?_
              refine RC.region rfl ?_
              refine RL.ev (.field0 fo25_0 rfl) rfl rfl ?_
              refine RL.ev (.load1 sh22 rfl (hb_3.cell rfl)) rfl rfl ?_
              refine RL.ev (.len sl22 rfl) rfl rfl ?_
              refine RL.ev (.move rfl) rfl rfl ?_
              refine RL.nil (RC.back ?_)
              refine RC.block ?_
              refine RC.loop (α := Nat) (fun i => [(2, .int .i64 p), (3, .pointer (some ⟨b_3, 0, none⟩)), (7, .pointer (some ⟨b_7, 0, none⟩)), (10, .int .i64 (lastAt (fewA A))), (70, .slice na (fewA A).nodes.length nc), (71, .int .i64 ((fewA A).nodes.length : Int)), (72, .int .i64 (i : Int))]) (fun i w13 => i ≤ (fewA A).nodes.length ∧ Has w13 b_3 [.slice na (fewA A).nodes.length nc, .slice fa (fewA A).free.length fc] 25 ∧ Has w13 b_7 [.slice nb' B.nodes.length ncb, .slice fb' B.free.length fcb] 25 ∧ NB (Nadd (Nadd (fun _ => False) b_3) b_7) w13 ∧ Imm (Nadd (Nadd (fun _ => False) b_3) b_7) (fun u => ArR u na fa (fewA A)) w13 ∧ Imm (Nadd (Nadd (fun _ => False) b_3) b_7) (fun u => ArR u nb' fb' B) w13 ∧ Sub w w13) (fun i => (fewA A).nodes.length - i) 0 (keep_of (by repeat (first | exact trivial | refine And.intro rfl ?_))) (⟨Nat.zero_le _, hb_3, hb_7, nb, hI, hB, S⟩) (fun i w13 hJ => ?_)
              obtain ⟨hi, hb_3, hb_7, nb, hI, hB, S⟩ := hJ
              refine RC.seq ?_
              refine RC.region rfl ?_
              refine RL.ev (.bin rfl rfl rfl) rfl rfl ?_
              refine RL.nil (RC.back ?_)
              refine RC.seq ?_
              refine RC.cond_dec rfl (fun h14 => ?_) (fun h14 => ?_)
              ·
                obtain ⟨z, hz⟩ := getSome (l := (fewA A).nodes) (i := i) (by omega)
                refine RC.skip (RC.back ?_)
                refine RC.seq ?_
                refine RC.block ?_
                refine RC.seq ?_
                refine RC.region rfl ?_
                refine RL.ev (.move rfl) rfl rfl ?_
                refine RL.ev (.indexS sl22 rfl rfl (by omega) (hI.now.nodes.is (i := 0) (by simp only [List.length_map]; omega))) rfl rfl ?_
                refine RL.ev (.loadR (z.cells) sh35 rfl (hI.now.nodes.rowAt (enc := Node.cells) (i := i) hz) rfl) rfl rfl ?_
                refine RL.alloc ze35 rfl rfl (fun b_12 w_12 e_12 z_12 hb_12 s_12 => ?_)
                have ge_12 := S.le e_12
                have n_3__12 := hb_3.ne e_12
                have n_7__12 := hb_7.ne e_12
                have S := S.trans s_12
                have hb_3 := hb_3.sub s_12
                have hb_7 := hb_7.sub s_12
                have nb := nb.add s_12 e_12 z_12
                have hI := hI.add s_12 e_12
                have hB := hB.add s_12 e_12
                refine RL.ev (.assign rfl) rfl rfl ?_
                refine RL.store sh35 rfl rfl rfl hb_12 (by exact Nat.le_of_ble_eq_true rfl) (by rfl) rfl (fun w15 z15 hb_12 a15 => ?_)
                have S := S.upd a15 ge_12
                have hb_3 := hb_3.upd a15 n_3__12
                have hb_7 := hb_7.upd a15 n_7__12
                have nb := nb.upd a15
                have hI := hI.upd a15 (.inr rfl)
                have hB := hB.upd a15 (.inr rfl)
                have hb_12 : Has w15 b_12 (z.cells) _ := hb_12.now (by kernel_rfl)
                refine RL.nil (RC.back ?_)
                refine RC.seq ?_
                refine RC.draw rfl mxo (by kernel_rfl) ?_
                refine RQ.ev (.move rfl) rfl rfl ?_
                refine RQ.ev (.move rfl) rfl rfl ?_
                refine RQ.ev (.bin rfl rfl rfl) rfl rfl ?_
                refine RQ.ev (.move rfl) rfl rfl ?_
                refine RQ.split 80 rfl (fun h16 => ?_) (fun h16 => ?_)
                ·
                  have hzB : B.nodes[i]? = some z := (by rw [hBe]; simp only [makeA]; rw [List.getElem?_set_ne (by omega)]; exact hz)
                  refine RQ.ev (.field0 fo25_0 rfl) rfl rfl ?_
                  refine RQ.ev (.load1 sh22 rfl (hb_7.cell rfl)) rfl rfl ?_
                  refine RQ.ev (.move rfl) rfl rfl ?_
                  refine RQ.ev (.indexS sl22 rfl rfl (by omega) (hB.now.nodes.is (i := 0) (by simp only [List.length_map]; omega))) rfl rfl ?_
                  refine RQ.ev (.loadR (z.cells) sh35 rfl (hB.now.nodes.rowAt (enc := Node.cells) (i := i) hzB) rfl) rfl rfl ?_
                  refine RQ.ev (.loadR (z.cells) sh35 rfl hb_12.row rfl) rfl rfl ?_
                  refine RQ.ev (.as (v' := .bool false) (.neS (xs := z.cells) (ys := z.cells) fk35 eg35 sh35 rfl rfl rfl rfl rfl) (congrArg Value.bool ((by rw [eqL_cells]; simp)))) rfl rfl ?_
                  refine RQ.ev (.pick_t rfl rfl) rfl rfl ?_
                  refine RQ.nil (fun w17 s18 => RC.back ?_)
                  have S := S.trans s18
                  have hb_3 := hb_3.sub s18
                  have hb_7 := hb_7.sub s18
                  have nb := nb.sub s18
                  have hI := hI.sub s18
                  have hB := hB.sub s18
                  have hb_12 := hb_12.sub s18
                  refine RC.cond_f rfl ?_
                  refine RC.skip (RC.back ?_)
                  refine RC.region rfl ?_
                  refine RL.ev (.as (.bin rfl rfl rfl) (wi64 (y := ((i + 1 : Nat) : Int)) (by omega) (by omega))) rfl rfl ?_
                  refine RL.ev (.move rfl) rfl rfl ?_
                  exact RL.nil (fun a ka => ⟨i + 1, ⟨by omega, hb_3, hb_7, fun k hk => nb k (.inl hk), hI.weaken fun _ h => .inl h, hB.weaken fun _ h => .inl h, S⟩, by omega, ka.keep (keep_of (by repeat (first | exact trivial | refine And.intro rfl ?_)))⟩)
                ·
                  refine RQ.off rfl rfl ?_
                  refine RQ.off rfl rfl ?_
                  refine RQ.off rfl rfl ?_
                  refine RQ.off rfl rfl ?_
                  refine RQ.off rfl rfl ?_
                  refine RQ.off rfl rfl ?_
                  refine RQ.off rfl rfl ?_
                  refine RQ.ev (.pick_f rfl rfl) rfl rfl ?_
                  refine RQ.nil (fun w19 s20 => RC.back ?_)
                  have S := S.trans s20
                  have hb_3 := hb_3.sub s20
                  have hb_7 := hb_7.sub s20
                  have nb := nb.sub s20
                  have hI := hI.sub s20
                  have hB := hB.sub s20
                  have hb_12 := hb_12.sub s20
                  refine RC.cond_f rfl ?_
                  refine RC.skip (RC.back ?_)
                  refine RC.region rfl ?_
                  refine RL.ev (.as (.bin rfl rfl rfl) (wi64 (y := ((i + 1 : Nat) : Int)) (by omega) (by omega))) rfl rfl ?_
                  refine RL.ev (.move rfl) rfl rfl ?_
                  exact RL.nil (fun a ka => ⟨i + 1, ⟨by omega, hb_3, hb_7, fun k hk => nb k (.inl hk), hI.weaken fun _ h => .inl h, hB.weaken fun _ h => .inl h, S⟩, by omega, ka.keep (keep_of (by repeat (first | exact trivial | refine And.intro rfl ?_)))⟩)
              ·
                refine RC.exit rfl (RC.back ?_)
                refine RC.seq ?_
                refine RC.region rfl ?_
                refine RL.ev (.loadR ([.slice na (fewA A).nodes.length nc, .slice fa (fewA A).free.length fc]) sh25 rfl hb_3.row rfl) rfl rfl ?_
                refine RL.ev (.move rfl) rfl rfl ?_
                refine RL.buildSlice1 sl23 _ ze3 rfl rfl rfl rfl rfl rfl rfl (fun b_93 w_93 e_93 z_93 hb_93 s_93 => ?_)
                have ge_93 := S.le e_93
                have n_3__93 := hb_3.ne e_93
                have n_7__93 := hb_7.ne e_93
                have S := S.trans s_93
                have hb_3 := hb_3.sub s_93
                have hb_7 := hb_7.sub s_93
                have nb := nb.sub s_93
                have hI := hI.sub s_93
                have hB := hB.sub s_93
                refine RL.call rfl ok10 (c_aDrop (fewA A) na fa nc fc [p] (some ⟨b_93, 0, none⟩) 1 (Nat.le_of_ble_eq_true rfl) (fun x hx => by rw [List.mem_singleton] at hx; subst hx; exact hp) w_93 hI.now hfF (by exact Has.slOne hb_93)) rfl rfl ?_
                rintro _ w21 ⟨s22, hr2⟩
                obtain ⟨nd', fd', ncd, fcd, C, f, rfl, hnC, hfC, hiC, hf0, hf1⟩ := drop_form hr2
                have hC := hiC _ nb hI
                have S := S.trans s22
                have hb_3 := hb_3.sub s22
                have hb_7 := hb_7.sub s22
                have nb := nb.sub s22
                have hI := hI.sub s22
                have hB := hB.sub s22
                have hb_93 := hb_93.sub s22
                refine RL.ev (.move rfl) rfl rfl ?_
                refine RL.ev (.extract rfl rfl) rfl rfl ?_
                refine RL.ev (.extract rfl rfl) rfl rfl ?_
                refine RL.alloc ze25 rfl rfl (fun b_13 w_13 e_13 z_13 hb_13 s_13 => ?_)
                have ge_13 := S.le e_13
                have n_3__13 := hb_3.ne e_13
                have n_7__13 := hb_7.ne e_13
                have n_93__13 := hb_93.ne e_13
                have S := S.trans s_13
                have hb_3 := hb_3.sub s_13
                have hb_7 := hb_7.sub s_13
                have nb := nb.add s_13 e_13 z_13
                have hI := hI.add s_13 e_13
                have hB := hB.add s_13 e_13
                have hb_93 := hb_93.sub s_13
                have hC := hC.add s_13 e_13
                refine RL.store sh25 rfl rfl rfl hb_13 (by exact Nat.le_of_ble_eq_true rfl) (by rfl) rfl (fun w23 z23 hb_13 a23 => ?_)
                have S := S.upd a23 ge_13
                have hb_3 := hb_3.upd a23 n_3__13
                have hb_7 := hb_7.upd a23 n_7__13
                have nb := nb.upd a23
                have hI := hI.upd a23 (.inr rfl)
                have hB := hB.upd a23 (.inr rfl)
                have hb_93 := hb_93.upd a23 n_93__13
                have hC := hC.upd a23 (.inr rfl)
                have hb_13 : Has w23 b_13 ([.slice nd' C.nodes.length ncd, .slice fd' C.free.length fcd]) _ := hb_13.now (by kernel_rfl)
                refine RL.ev (.assign rfl) rfl rfl ?_
                refine RL.nil (RC.back ?_)
                refine RC.seq ?_
                refine RC.seq ?_
                refine RC.region rfl ?_
                refine RL.ev (.move rfl) rfl rfl ?_
                refine RL.ev (.bin rfl rfl rfl) rfl rfl ?_
                refine RL.nil (RC.back ?_)
                refine RC.cond_dec rfl (fun h24 => ?_) (fun h24 => ?_)
                ·
                  have hno := (hf1 h24).2.2
                  refine RC.seq ?_
                  refine RC.region rfl ?_
                  refine RL.call rfl ok12 (c_alive4 w23) rfl rfl ?_
                  rintro _ w25 ⟨rfl, s26⟩
                  have S := S.trans s26
                  have hb_3 := hb_3.sub s26
                  have hb_7 := hb_7.sub s26
                  have nb := nb.sub s26
                  have hI := hI.sub s26
                  have hB := hB.sub s26
                  have hb_93 := hb_93.sub s26
                  have hC := hC.sub s26
                  have hb_13 := hb_13.sub s26
                  refine RL.ev (.move rfl) rfl rfl ?_
                  refine RL.ev (.loadR ([.slice na (fewA A).nodes.length nc, .slice fa (fewA A).free.length fc]) sh25 rfl hb_3.row rfl) rfl rfl ?_
                  refine RL.call rfl ok11 (c_r4Right (fewA A) na fa nc fc w25 hI.now) rfl rfl ?_
                  rintro _ w27 ⟨rfl, s28⟩
                  have S := S.trans s28
                  have hb_3 := hb_3.sub s28
                  have hb_7 := hb_7.sub s28
                  have nb := nb.sub s28
                  have hI := hI.sub s28
                  have hB := hB.sub s28
                  have hb_93 := hb_93.sub s28
                  have hC := hC.sub s28
                  have hb_13 := hb_13.sub s28
                  refine RL.ev (.not rfl) rfl rfl ?_
                  refine RL.ev (.move rfl) rfl rfl ?_
                  refine RL.splitB 104 rfl (fun h29 => ?_) (fun h29 => ?_)
                  ·
                    refine RL.off rfl rfl ?_
                    refine RL.off rfl rfl ?_
                    refine RL.ev (.pick_t rfl rfl) rfl rfl ?_
                    refine RL.ev (.move rfl) rfl rfl ?_
                    refine RL.off rfl rfl ?_
                    refine RL.off rfl rfl ?_
                    refine RL.off rfl rfl ?_
                    refine RL.off rfl rfl ?_
                    refine RL.off rfl rfl ?_
                    refine RL.ev (.pick_t rfl rfl) rfl rfl ?_
                    refine RL.ev (.move rfl) rfl rfl ?_
                    refine RL.off rfl rfl ?_
                    refine RL.off rfl rfl ?_
                    refine RL.off rfl rfl ?_
                    refine RL.off rfl rfl ?_
                    refine RL.off rfl rfl ?_
                    refine RL.off rfl rfl ?_
                    refine RL.off rfl rfl ?_
                    refine RL.ev (.pick_t rfl rfl) rfl rfl ?_
                    refine RL.ev (.pick_t rfl rfl) rfl rfl ?_
                    refine RL.ev (.assign rfl) rfl rfl ?_
                    refine RL.nil (RC.back ?_)
                    refine RC.done (rs := [.tmp 6]) (vs := [_]) rfl rfl ⟨rfl, trivial⟩ ?_
                    -- end 1
                    exact ⟨rfl, S⟩
                  ·
                    have hok : AOk (fewA A) := (aokB_iff _).1 (by simpa using h29)
                    have hds := dropStep_none (drop_one_no (hno.resolve_left (fun h => h hok)))
                    refine RL.ev (.move rfl) rfl rfl ?_
                    refine RL.ev (.bin rfl rfl rfl) rfl rfl ?_
                    refine RL.ev (.pick_f rfl rfl) rfl rfl ?_
                    refine RL.ev (.move rfl) rfl rfl ?_
                    refine RL.split 108 rfl (fun h30 => ?_) (fun h30 => ?_)
                    ·
                      refine RL.off rfl rfl ?_
                      refine RL.off rfl rfl ?_
                      refine RL.off rfl rfl ?_
                      refine RL.off rfl rfl ?_
                      refine RL.off rfl rfl ?_
                      refine RL.ev (.pick_t rfl rfl) rfl rfl ?_
                      refine RL.ev (.move rfl) rfl rfl ?_
                      refine RL.off rfl rfl ?_
                      refine RL.off rfl rfl ?_
                      refine RL.off rfl rfl ?_
                      refine RL.off rfl rfl ?_
                      refine RL.off rfl rfl ?_
                      refine RL.off rfl rfl ?_
                      refine RL.off rfl rfl ?_
                      refine RL.ev (.pick_t rfl rfl) rfl rfl ?_
                      refine RL.ev (.pick_t rfl rfl) rfl rfl ?_
                      refine RL.ev (.assign rfl) rfl rfl ?_
                      refine RL.nil (RC.back ?_)
                      refine RC.done (rs := [.tmp 6]) (vs := [_]) rfl rfl ⟨rfl, trivial⟩ ?_
                      -- end 2
                      exact ⟨rfl, S⟩
                    ·
                      refine RL.ev (.move rfl) rfl rfl ?_
                      refine RL.ev (.field0 fo25_0 rfl) rfl rfl ?_
                      refine RL.ev (.load1 sh22 rfl (hb_3.cell rfl)) rfl rfl ?_
                      refine RL.ev (.len sl22 rfl) rfl rfl ?_
                      refine RL.ev (.bin rfl rfl rfl) rfl rfl ?_
                      refine RL.ev (.pick_f rfl rfl) rfl rfl ?_
                      refine RL.ev (.move rfl) rfl rfl ?_
                      refine RL.split 115 rfl (fun h31 => ?_) (fun h31 => ?_)
                      ·
                        refine RL.off rfl rfl ?_
                        refine RL.off rfl rfl ?_
                        refine RL.off rfl rfl ?_
                        refine RL.off rfl rfl ?_
                        refine RL.off rfl rfl ?_
                        refine RL.off rfl rfl ?_
                        refine RL.off rfl rfl ?_
                        refine RL.ev (.pick_t rfl rfl) rfl rfl ?_
                        refine RL.ev (.pick_t rfl rfl) rfl rfl ?_
                        refine RL.ev (.assign rfl) rfl rfl ?_
                        refine RL.nil (RC.back ?_)
                        refine RC.done (rs := [.tmp 6]) (vs := [_]) rfl rfl ⟨rfl, trivial⟩ ?_
                        -- end 3
                        exact ⟨rfl, S⟩
                      ·
                        obtain ⟨y2, hy2, hk2⟩ : ∃ y, (fewA A).nodes[p.toNat]? = some y ∧ y.kind = 0 := (by rcases hds with h | h | h; omega; omega; exact h)
                        refine RL.ev (.field0 fo25_0 rfl) rfl rfl ?_
                        refine RL.ev (.load1 sh22 rfl (hb_3.cell rfl)) rfl rfl ?_
                        refine RL.ev (.move rfl) rfl rfl ?_
                        refine RL.ev (.indexS sl22 rfl rfl (by omega) (hI.now.nodes.is (i := 0) (by simp only [List.length_map]; omega))) rfl rfl ?_
                        refine RL.ev (.fieldA fo35_0 rfl) rfl rfl ?_
                        refine RL.ev (.load1 sh3 rfl (hI.now.nodes.cell (enc := Node.cells) (j := 0) hy2 rfl)) rfl rfl ?_
                        refine RL.ev (.as (v' := .bool true) (.bin rfl rfl rfl) (congrArg Value.bool (decide_eq_true (hk2)))) rfl rfl ?_
                        refine RL.ev (.pick_f rfl rfl) rfl rfl ?_
                        refine RL.ev (.pick_t rfl rfl) rfl rfl ?_
                        refine RL.ev (.assign rfl) rfl rfl ?_
                        refine RL.nil (RC.back ?_)
                        refine RC.done (rs := [.tmp 6]) (vs := [_]) rfl rfl ⟨rfl, trivial⟩ ?_
                        -- end 4
                        exact ⟨rfl, S⟩
                ·
                  have hok2 := hf0 (Decidable.not_not.1 h24)
                  obtain ⟨hp0, hp1, y3, hy3, hk3, hCe⟩ := dropStep_inv (drop_one hok2.2)
                  have hCl : C.nodes.length = (fewA A).nodes.length := (by rw [hCe]; simp)
                  have hCf : C.free.length = (fewA A).free.length + 1 := (by rw [hCe]; simp)
                  refine RC.skip (RC.back ?_)
                  refine RC.seq ?_
                  refine RC.seq ?_
                  refine RC.region rfl ?_
                  refine RL.ev (.field0 fo25_0 rfl) rfl rfl ?_
                  refine RL.ev (.load1 sh22 rfl (hb_3.cell rfl)) rfl rfl ?_
                  refine RL.ev (.len sl22 rfl) rfl rfl ?_
                  refine RL.ev (.move rfl) rfl rfl ?_
                  refine RL.nil (RC.back ?_)
                  refine RC.block ?_
                  refine RC.loop (α := Nat) (fun i => [(2, .int .i64 p), (3, .pointer (some ⟨b_3, 0, none⟩)), (13, .pointer (some ⟨b_13, 0, none⟩)), (126, .slice na (fewA A).nodes.length nc), (127, .int .i64 ((fewA A).nodes.length : Int)), (128, .int .i64 (i : Int))]) (fun i w32 => i ≤ (fewA A).nodes.length ∧ Has w32 b_3 [.slice na (fewA A).nodes.length nc, .slice fa (fewA A).free.length fc] 25 ∧ Has w32 b_13 [.slice nd' C.nodes.length ncd, .slice fd' C.free.length fcd] 25 ∧ NB (Nadd (Nadd (Nadd (fun _ => False) b_3) b_7) b_13) w32 ∧ Imm (Nadd (Nadd (Nadd (fun _ => False) b_3) b_7) b_13) (fun u => ArR u na fa (fewA A)) w32 ∧ Imm (Nadd (Nadd (Nadd (fun _ => False) b_3) b_7) b_13) (fun u => ArR u nd' fd' C) w32 ∧ Sub w w32) (fun i => (fewA A).nodes.length - i) 0 (keep_of (by repeat (first | exact trivial | refine And.intro rfl ?_))) (⟨Nat.zero_le _, hb_3, hb_13, nb, hI, hC, S⟩) (fun i w32 hJ => ?_)
                  obtain ⟨hi, hb_3, hb_13, nb, hI, hC, S⟩ := hJ
                  refine RC.seq ?_
                  refine RC.region rfl ?_
                  refine RL.ev (.bin rfl rfl rfl) rfl rfl ?_
                  refine RL.nil (RC.back ?_)
                  refine RC.seq ?_
                  refine RC.cond_dec rfl (fun h33 => ?_) (fun h33 => ?_)
                  ·
                    obtain ⟨z, hz⟩ := getSome (l := (fewA A).nodes) (i := i) (by omega)
                    refine RC.skip (RC.back ?_)
                    refine RC.seq ?_
                    refine RC.block ?_
                    refine RC.seq ?_
                    refine RC.region rfl ?_
                    refine RL.ev (.move rfl) rfl rfl ?_
                    refine RL.ev (.indexS sl22 rfl rfl (by omega) (hI.now.nodes.is (i := 0) (by simp only [List.length_map]; omega))) rfl rfl ?_
                    refine RL.ev (.loadR (z.cells) sh35 rfl (hI.now.nodes.rowAt (enc := Node.cells) (i := i) hz) rfl) rfl rfl ?_
                    refine RL.alloc ze35 rfl rfl (fun b_16 w_16 e_16 z_16 hb_16 s_16 => ?_)
                    have ge_16 := S.le e_16
                    have n_3__16 := hb_3.ne e_16
                    have n_13__16 := hb_13.ne e_16
                    have S := S.trans s_16
                    have hb_3 := hb_3.sub s_16
                    have hb_13 := hb_13.sub s_16
                    have nb := nb.add s_16 e_16 z_16
                    have hI := hI.add s_16 e_16
                    have hC := hC.add s_16 e_16
                    refine RL.ev (.assign rfl) rfl rfl ?_
                    refine RL.store sh35 rfl rfl rfl hb_16 (by exact Nat.le_of_ble_eq_true rfl) (by rfl) rfl (fun w34 z34 hb_16 a34 => ?_)
                    have S := S.upd a34 ge_16
                    have hb_3 := hb_3.upd a34 n_3__16
                    have hb_13 := hb_13.upd a34 n_13__16
                    have nb := nb.upd a34
                    have hI := hI.upd a34 (.inr rfl)
                    have hC := hC.upd a34 (.inr rfl)
                    have hb_16 : Has w34 b_16 (z.cells) _ := hb_16.now (by kernel_rfl)
                    refine RL.nil (RC.back ?_)
                    refine RC.seq ?_
                    refine RC.draw rfl mxo (by kernel_rfl) ?_
                    refine RQ.ev (.move rfl) rfl rfl ?_
                    refine RQ.ev (.move rfl) rfl rfl ?_
                    refine RQ.ev (.bin rfl rfl rfl) rfl rfl ?_
                    refine RQ.ev (.move rfl) rfl rfl ?_
                    refine RQ.split 136 rfl (fun h35 => ?_) (fun h35 => ?_)
                    ·
                      have hzC : C.nodes[i]? = some z := (by rw [hCe]; simp only []; rw [List.getElem?_set_ne (by omega)]; exact hz)
                      refine RQ.ev (.field0 fo25_0 rfl) rfl rfl ?_
                      refine RQ.ev (.load1 sh22 rfl (hb_13.cell rfl)) rfl rfl ?_
                      refine RQ.ev (.move rfl) rfl rfl ?_
                      refine RQ.ev (.indexS sl22 rfl rfl (by omega) (hC.now.nodes.is (i := 0) (by simp only [List.length_map]; omega))) rfl rfl ?_
                      refine RQ.ev (.loadR (z.cells) sh35 rfl (hC.now.nodes.rowAt (enc := Node.cells) (i := i) hzC) rfl) rfl rfl ?_
                      refine RQ.ev (.loadR (z.cells) sh35 rfl hb_16.row rfl) rfl rfl ?_
                      refine RQ.ev (.as (v' := .bool false) (.neS (xs := z.cells) (ys := z.cells) fk35 eg35 sh35 rfl rfl rfl rfl rfl) (congrArg Value.bool ((by rw [eqL_cells]; simp)))) rfl rfl ?_
                      refine RQ.ev (.pick_t rfl rfl) rfl rfl ?_
                      refine RQ.nil (fun w36 s37 => RC.back ?_)
                      have S := S.trans s37
                      have hb_3 := hb_3.sub s37
                      have hb_13 := hb_13.sub s37
                      have nb := nb.sub s37
                      have hI := hI.sub s37
                      have hC := hC.sub s37
                      have hb_16 := hb_16.sub s37
                      refine RC.cond_f rfl ?_
                      refine RC.skip (RC.back ?_)
                      refine RC.region rfl ?_
                      refine RL.ev (.as (.bin rfl rfl rfl) (wi64 (y := ((i + 1 : Nat) : Int)) (by omega) (by omega))) rfl rfl ?_
                      refine RL.ev (.move rfl) rfl rfl ?_
                      exact RL.nil (fun a ka => ⟨i + 1, ⟨by omega, hb_3, hb_13, fun k hk => nb k (.inl hk), hI.weaken fun _ h => .inl h, hC.weaken fun _ h => .inl h, S⟩, by omega, ka.keep (keep_of (by repeat (first | exact trivial | refine And.intro rfl ?_)))⟩)
                    ·
                      refine RQ.off rfl rfl ?_
                      refine RQ.off rfl rfl ?_
                      refine RQ.off rfl rfl ?_
                      refine RQ.off rfl rfl ?_
                      refine RQ.off rfl rfl ?_
                      refine RQ.off rfl rfl ?_
                      refine RQ.off rfl rfl ?_
                      refine RQ.ev (.pick_f rfl rfl) rfl rfl ?_
                      refine RQ.nil (fun w38 s39 => RC.back ?_)
                      have S := S.trans s39
                      have hb_3 := hb_3.sub s39
                      have hb_13 := hb_13.sub s39
                      have nb := nb.sub s39
                      have hI := hI.sub s39
                      have hC := hC.sub s39
                      have hb_16 := hb_16.sub s39
                      refine RC.cond_f rfl ?_
                      refine RC.skip (RC.back ?_)
                      refine RC.region rfl ?_
                      refine RL.ev (.as (.bin rfl rfl rfl) (wi64 (y := ((i + 1 : Nat) : Int)) (by omega) (by omega))) rfl rfl ?_
                      refine RL.ev (.move rfl) rfl rfl ?_
                      exact RL.nil (fun a ka => ⟨i + 1, ⟨by omega, hb_3, hb_13, fun k hk => nb k (.inl hk), hI.weaken fun _ h => .inl h, hC.weaken fun _ h => .inl h, S⟩, by omega, ka.keep (keep_of (by repeat (first | exact trivial | refine And.intro rfl ?_)))⟩)
                  ·
                    refine RC.exit rfl (RC.back ?_)
                    refine RC.seq ?_
                    refine RC.region rfl ?_
                    refine RL.call rfl ok12 (c_alive4 w32) rfl rfl ?_
                    rintro _ w40 ⟨rfl, s41⟩
                    have S := S.trans s41
                    have hb_3 := hb_3.sub s41
                    have hb_13 := hb_13.sub s41
                    have nb := nb.sub s41
                    have hI := hI.sub s41
                    have hC := hC.sub s41
                    refine RL.ev (.move rfl) rfl rfl ?_
                    refine RL.ev (.field0 fo25_1 rfl) rfl rfl ?_
                    refine RL.ev (.load1 sh23 rfl (hb_13.cell rfl)) rfl rfl ?_
                    refine RL.ev (.len sl23 rfl) rfl rfl ?_
                    refine RL.ev (.field0 fo25_1 rfl) rfl rfl ?_
                    refine RL.ev (.load1 sh23 rfl (hb_3.cell rfl)) rfl rfl ?_
                    refine RL.ev (.len sl23 rfl) rfl rfl ?_
                    refine RL.ev (.as (.bin rfl rfl rfl) (wi64 (y := ((fewA A).free.length : Int) + 1) (by rfl) (by omega))) rfl rfl ?_
                    refine RL.ev (.as (v' := .bool true) (.bin rfl rfl rfl) (congrArg Value.bool (decide_eq_true (by omega)))) rfl rfl ?_
                    refine RL.ev (.pick_t rfl rfl) rfl rfl ?_
                    refine RL.ev (.move rfl) rfl rfl ?_
                    refine RL.ev (.field0 fo25_0 rfl) rfl rfl ?_
                    refine RL.ev (.load1 sh22 rfl (hb_13.cell rfl)) rfl rfl ?_
                    refine RL.ev (.move rfl) rfl rfl ?_
                    refine RL.ev (.indexS sl22 rfl rfl (by omega) (hC.now.nodes.is (i := 0) (by simp only [List.length_map]; omega))) rfl rfl ?_
                    refine RL.ev (.fieldA fo35_0 rfl) rfl rfl ?_
                    refine RL.ev (.load1 sh3 rfl (hC.now.nodes.cell (enc := Node.cells) (i := p.toNat) (x := bareN ((y3.gen + 1) % 1048577)) (j := 0) (by rw [hCe]; simp only []; rw [List.getElem?_set_self (by omega)]) rfl)) rfl rfl ?_
                    refine RL.ev (.as (v' := .bool true) (.bin rfl rfl rfl) (congrArg Value.bool (decide_eq_true (rfl)))) rfl rfl ?_
                    refine RL.ev (.pick_t rfl rfl) rfl rfl ?_
                    refine RL.ev (.move rfl) rfl rfl ?_
                    refine RL.ev (.field0 fo25_1 rfl) rfl rfl ?_
                    refine RL.ev (.load1 sh23 rfl (hb_13.cell rfl)) rfl rfl ?_
                    refine RL.ev (.field0 fo25_1 rfl) rfl rfl ?_
                    refine RL.ev (.load1 sh23 rfl (hb_3.cell rfl)) rfl rfl ?_
                    refine RL.ev (.len sl23 rfl) rfl rfl ?_
                    refine RL.ev (.indexS sl23 rfl rfl (by omega) (hC.now.free.is (i := 0) (by simp only [List.length_map]; omega))) rfl rfl ?_
                    refine RL.ev (.load1 sh3 rfl (hC.now.free.one (enc := i6) (i := (fewA A).free.length) (x := p) (by rw [hCe]; simp))) rfl rfl ?_
                    refine RL.ev (.move rfl) rfl rfl ?_
                    refine RL.ev (.as (v' := .bool true) (.bin rfl rfl rfl) (congrArg Value.bool (decide_eq_true (rfl)))) rfl rfl ?_
                    refine RL.ev (.pick_t rfl rfl) rfl rfl ?_
                    refine RL.ev (.assign rfl) rfl rfl ?_
                    refine RL.nil (RC.back ?_)
                    refine RC.done (rs := [.tmp 6]) (vs := [_]) rfl rfl ⟨rfl, trivial⟩ ?_
                    -- end 5
                    exact ⟨rfl, S⟩
  ·
    refine RC.skip (RC.back ?_)
    refine RC.seq ?_
    refine RC.region rfl ?_
    refine RL.ev (.loadR ([.slice na (fewA A).nodes.length nc, .slice fa (fewA A).free.length fc]) sh25 rfl hb_3.row rfl) rfl rfl ?_
    refine RL.ev (.move rfl) rfl rfl ?_
    refine RL.buildSlice1 sl23 _ ze3 rfl rfl rfl rfl rfl rfl rfl (fun b_93 w_93 e_93 z_93 hb_93 s_93 => ?_)
    have ge_93 := S.le e_93
    have n_3__93 := hb_3.ne e_93
    have n_4__93 := hb_4.ne e_93
    have n_7__93 := hb_7.ne e_93
    have S := S.trans s_93
    have nb := nb.sub s_93
    have hI := hI.sub s_93
    have hb_3 := hb_3.sub s_93
    have hb_4 := hb_4.sub s_93
    have hB := hB.sub s_93
    have hb_7 := hb_7.sub s_93
    refine RL.call rfl ok10 (c_aDrop (fewA A) na fa nc fc [p] (some ⟨b_93, 0, none⟩) 1 (Nat.le_of_ble_eq_true rfl) (fun x hx => by rw [List.mem_singleton] at hx; subst hx; exact hp) w_93 hI.now hfF (by exact Has.slOne hb_93)) rfl rfl ?_
    rintro _ w42 ⟨s43, hr2⟩
    obtain ⟨nd', fd', ncd, fcd, C, f, rfl, hnC, hfC, hiC, hf0, hf1⟩ := drop_form hr2
    have hC := hiC _ nb hI
    have S := S.trans s43
    have nb := nb.sub s43
    have hI := hI.sub s43
    have hb_3 := hb_3.sub s43
    have hb_4 := hb_4.sub s43
    have hB := hB.sub s43
    have hb_7 := hb_7.sub s43
    have hb_93 := hb_93.sub s43
    refine RL.ev (.move rfl) rfl rfl ?_
    refine RL.ev (.extract rfl rfl) rfl rfl ?_
    refine RL.ev (.extract rfl rfl) rfl rfl ?_
    refine RL.alloc ze25 rfl rfl (fun b_13 w_13 e_13 z_13 hb_13 s_13 => ?_)
    have ge_13 := S.le e_13
    have n_3__13 := hb_3.ne e_13
    have n_4__13 := hb_4.ne e_13
    have n_7__13 := hb_7.ne e_13
    have n_93__13 := hb_93.ne e_13
    have S := S.trans s_13
    have nb := nb.add s_13 e_13 z_13
    have hI := hI.add s_13 e_13
    have hb_3 := hb_3.sub s_13
    have hb_4 := hb_4.sub s_13
    have hB := hB.add s_13 e_13
    have hb_7 := hb_7.sub s_13
    have hb_93 := hb_93.sub s_13
    have hC := hC.add s_13 e_13
    refine RL.store sh25 rfl rfl rfl hb_13 (by exact Nat.le_of_ble_eq_true rfl) (by rfl) rfl (fun w44 z44 hb_13 a44 => ?_)
    have S := S.upd a44 ge_13
    have nb := nb.upd a44
    have hI := hI.upd a44 (.inr rfl)
    have hb_3 := hb_3.upd a44 n_3__13
    have hb_4 := hb_4.upd a44 n_4__13
    have hB := hB.upd a44 (.inr rfl)
    have hb_7 := hb_7.upd a44 n_7__13
    have hb_93 := hb_93.upd a44 n_93__13
    have hC := hC.upd a44 (.inr rfl)
    have hb_13 : Has w44 b_13 ([.slice nd' C.nodes.length ncd, .slice fd' C.free.length fcd]) _ := hb_13.now (by kernel_rfl)
    refine RL.ev (.assign rfl) rfl rfl ?_
    refine RL.nil (RC.back ?_)
    refine RC.seq ?_
    refine RC.seq ?_
    refine RC.region rfl ?_
    refine RL.ev (.move rfl) rfl rfl ?_
    refine RL.ev (.bin rfl rfl rfl) rfl rfl ?_
    refine RL.nil (RC.back ?_)
    refine RC.cond_dec rfl (fun h45 => ?_) (fun h45 => ?_)
    ·
      have hno := (hf1 h45).2.2
      refine RC.seq ?_
      refine RC.region rfl ?_
      refine RL.call rfl ok12 (c_alive4 w44) rfl rfl ?_
      rintro _ w46 ⟨rfl, s47⟩
      have S := S.trans s47
      have nb := nb.sub s47
      have hI := hI.sub s47
      have hb_3 := hb_3.sub s47
      have hb_4 := hb_4.sub s47
      have hB := hB.sub s47
      have hb_7 := hb_7.sub s47
      have hb_93 := hb_93.sub s47
      have hC := hC.sub s47
      have hb_13 := hb_13.sub s47
      refine RL.ev (.move rfl) rfl rfl ?_
      refine RL.ev (.loadR ([.slice na (fewA A).nodes.length nc, .slice fa (fewA A).free.length fc]) sh25 rfl hb_3.row rfl) rfl rfl ?_
      refine RL.call rfl ok11 (c_r4Right (fewA A) na fa nc fc w46 hI.now) rfl rfl ?_
      rintro _ w48 ⟨rfl, s49⟩
      have S := S.trans s49
      have nb := nb.sub s49
      have hI := hI.sub s49
      have hb_3 := hb_3.sub s49
      have hb_4 := hb_4.sub s49
      have hB := hB.sub s49
      have hb_7 := hb_7.sub s49
      have hb_93 := hb_93.sub s49
      have hC := hC.sub s49
      have hb_13 := hb_13.sub s49
      refine RL.ev (.not rfl) rfl rfl ?_
      refine RL.ev (.move rfl) rfl rfl ?_
      refine RL.splitB 104 rfl (fun h50 => ?_) (fun h50 => ?_)
      ·
        refine RL.off rfl rfl ?_
        refine RL.off rfl rfl ?_
        refine RL.ev (.pick_t rfl rfl) rfl rfl ?_
        refine RL.ev (.move rfl) rfl rfl ?_
        refine RL.off rfl rfl ?_
        refine RL.off rfl rfl ?_
        refine RL.off rfl rfl ?_
        refine RL.off rfl rfl ?_
        refine RL.off rfl rfl ?_
        refine RL.ev (.pick_t rfl rfl) rfl rfl ?_
        refine RL.ev (.move rfl) rfl rfl ?_
        refine RL.off rfl rfl ?_
        refine RL.off rfl rfl ?_
        refine RL.off rfl rfl ?_
        refine RL.off rfl rfl ?_
        refine RL.off rfl rfl ?_
        refine RL.off rfl rfl ?_
        refine RL.off rfl rfl ?_
        refine RL.ev (.pick_t rfl rfl) rfl rfl ?_
        refine RL.ev (.pick_t rfl rfl) rfl rfl ?_
        refine RL.ev (.assign rfl) rfl rfl ?_
        refine RL.nil (RC.back ?_)
        refine RC.done (rs := [.tmp 6]) (vs := [_]) rfl rfl ⟨rfl, trivial⟩ ?_
        -- end 6
        exact ⟨rfl, S⟩
      ·
        have hok : AOk (fewA A) := (aokB_iff _).1 (by simpa using h50)
        have hds := dropStep_none (drop_one_no (hno.resolve_left (fun h => h hok)))
        refine RL.ev (.move rfl) rfl rfl ?_
        refine RL.ev (.bin rfl rfl rfl) rfl rfl ?_
        refine RL.ev (.pick_f rfl rfl) rfl rfl ?_
        refine RL.ev (.move rfl) rfl rfl ?_
        refine RL.split 108 rfl (fun h51 => ?_) (fun h51 => ?_)
        ·
          refine RL.off rfl rfl ?_
          refine RL.off rfl rfl ?_
          refine RL.off rfl rfl ?_
          refine RL.off rfl rfl ?_
          refine RL.off rfl rfl ?_
          refine RL.ev (.pick_t rfl rfl) rfl rfl ?_
          refine RL.ev (.move rfl) rfl rfl ?_
          refine RL.off rfl rfl ?_
          refine RL.off rfl rfl ?_
          refine RL.off rfl rfl ?_
          refine RL.off rfl rfl ?_
          refine RL.off rfl rfl ?_
          refine RL.off rfl rfl ?_
          refine RL.off rfl rfl ?_
          refine RL.ev (.pick_t rfl rfl) rfl rfl ?_
          refine RL.ev (.pick_t rfl rfl) rfl rfl ?_
          refine RL.ev (.assign rfl) rfl rfl ?_
          refine RL.nil (RC.back ?_)
          refine RC.done (rs := [.tmp 6]) (vs := [_]) rfl rfl ⟨rfl, trivial⟩ ?_
          -- end 7
          exact ⟨rfl, S⟩
        ·
          refine RL.ev (.move rfl) rfl rfl ?_
          refine RL.ev (.field0 fo25_0 rfl) rfl rfl ?_
          refine RL.ev (.load1 sh22 rfl (hb_3.cell rfl)) rfl rfl ?_
          refine RL.ev (.len sl22 rfl) rfl rfl ?_
          refine RL.ev (.bin rfl rfl rfl) rfl rfl ?_
          refine RL.ev (.pick_f rfl rfl) rfl rfl ?_
          refine RL.ev (.move rfl) rfl rfl ?_
          refine RL.split 115 rfl (fun h52 => ?_) (fun h52 => ?_)
          ·
            refine RL.off rfl rfl ?_
            refine RL.off rfl rfl ?_
            refine RL.off rfl rfl ?_
            refine RL.off rfl rfl ?_
            refine RL.off rfl rfl ?_
            refine RL.off rfl rfl ?_
            refine RL.off rfl rfl ?_
            refine RL.ev (.pick_t rfl rfl) rfl rfl ?_
            refine RL.ev (.pick_t rfl rfl) rfl rfl ?_
            refine RL.ev (.assign rfl) rfl rfl ?_
            refine RL.nil (RC.back ?_)
            refine RC.done (rs := [.tmp 6]) (vs := [_]) rfl rfl ⟨rfl, trivial⟩ ?_
            -- end 8
            exact ⟨rfl, S⟩
          ·
            obtain ⟨y2, hy2, hk2⟩ : ∃ y, (fewA A).nodes[p.toNat]? = some y ∧ y.kind = 0 := (by rcases hds with h | h | h; omega; omega; exact h)
            refine RL.ev (.field0 fo25_0 rfl) rfl rfl ?_
            refine RL.ev (.load1 sh22 rfl (hb_3.cell rfl)) rfl rfl ?_
            refine RL.ev (.move rfl) rfl rfl ?_
            refine RL.ev (.indexS sl22 rfl rfl (by omega) (hI.now.nodes.is (i := 0) (by simp only [List.length_map]; omega))) rfl rfl ?_
            refine RL.ev (.fieldA fo35_0 rfl) rfl rfl ?_
            refine RL.ev (.load1 sh3 rfl (hI.now.nodes.cell (enc := Node.cells) (j := 0) hy2 rfl)) rfl rfl ?_
            refine RL.ev (.as (v' := .bool true) (.bin rfl rfl rfl) (congrArg Value.bool (decide_eq_true (hk2)))) rfl rfl ?_
            refine RL.ev (.pick_f rfl rfl) rfl rfl ?_
            refine RL.ev (.pick_t rfl rfl) rfl rfl ?_
            refine RL.ev (.assign rfl) rfl rfl ?_
            refine RL.nil (RC.back ?_)
            refine RC.done (rs := [.tmp 6]) (vs := [_]) rfl rfl ⟨rfl, trivial⟩ ?_
            -- end 9
            exact ⟨rfl, S⟩
    ·
      have hok2 := hf0 (Decidable.not_not.1 h45)
      obtain ⟨hp0, hp1, y3, hy3, hk3, hCe⟩ := dropStep_inv (drop_one hok2.2)
      have hCl : C.nodes.length = (fewA A).nodes.length := (by rw [hCe]; simp)
      have hCf : C.free.length = (fewA A).free.length + 1 := (by rw [hCe]; simp)
      refine RC.skip (RC.back ?_)
      refine RC.seq ?_
      refine RC.seq ?_
      refine RC.region rfl ?_
      refine RL.ev (.field0 fo25_0 rfl) rfl rfl ?_
      refine RL.ev (.load1 sh22 rfl (hb_3.cell rfl)) rfl rfl ?_
      refine RL.ev (.len sl22 rfl) rfl rfl ?_
      refine RL.ev (.move rfl) rfl rfl ?_
      refine RL.nil (RC.back ?_)
      refine RC.block ?_
      refine RC.loop (α := Nat) (fun i => [(2, .int .i64 p), (3, .pointer (some ⟨b_3, 0, none⟩)), (13, .pointer (some ⟨b_13, 0, none⟩)), (126, .slice na (fewA A).nodes.length nc), (127, .int .i64 ((fewA A).nodes.length : Int)), (128, .int .i64 (i : Int))]) (fun i w53 => i ≤ (fewA A).nodes.length ∧ Has w53 b_3 [.slice na (fewA A).nodes.length nc, .slice fa (fewA A).free.length fc] 25 ∧ Has w53 b_13 [.slice nd' C.nodes.length ncd, .slice fd' C.free.length fcd] 25 ∧ NB (Nadd (Nadd (Nadd (fun _ => False) b_3) b_7) b_13) w53 ∧ Imm (Nadd (Nadd (Nadd (fun _ => False) b_3) b_7) b_13) (fun u => ArR u na fa (fewA A)) w53 ∧ Imm (Nadd (Nadd (Nadd (fun _ => False) b_3) b_7) b_13) (fun u => ArR u nd' fd' C) w53 ∧ Sub w w53) (fun i => (fewA A).nodes.length - i) 0 (keep_of (by repeat (first | exact trivial | refine And.intro rfl ?_))) (⟨Nat.zero_le _, hb_3, hb_13, nb, hI, hC, S⟩) (fun i w53 hJ => ?_)
      obtain ⟨hi, hb_3, hb_13, nb, hI, hC, S⟩ := hJ
      refine RC.seq ?_
      refine RC.region rfl ?_
      refine RL.ev (.bin rfl rfl rfl) rfl rfl ?_
      refine RL.nil (RC.back ?_)
      refine RC.seq ?_
      refine RC.cond_dec rfl (fun h54 => ?_) (fun h54 => ?_)
      ·
        obtain ⟨z, hz⟩ := getSome (l := (fewA A).nodes) (i := i) (by omega)
        refine RC.skip (RC.back ?_)
        refine RC.seq ?_
        refine RC.block ?_
        refine RC.seq ?_
        refine RC.region rfl ?_
        refine RL.ev (.move rfl) rfl rfl ?_
        refine RL.ev (.indexS sl22 rfl rfl (by omega) (hI.now.nodes.is (i := 0) (by simp only [List.length_map]; omega))) rfl rfl ?_
        refine RL.ev (.loadR (z.cells) sh35 rfl (hI.now.nodes.rowAt (enc := Node.cells) (i := i) hz) rfl) rfl rfl ?_
        refine RL.alloc ze35 rfl rfl (fun b_16 w_16 e_16 z_16 hb_16 s_16 => ?_)
        have ge_16 := S.le e_16
        have n_3__16 := hb_3.ne e_16
        have n_13__16 := hb_13.ne e_16
        have S := S.trans s_16
        have hb_3 := hb_3.sub s_16
        have hb_13 := hb_13.sub s_16
        have nb := nb.add s_16 e_16 z_16
        have hI := hI.add s_16 e_16
        have hC := hC.add s_16 e_16
        refine RL.ev (.assign rfl) rfl rfl ?_
        refine RL.store sh35 rfl rfl rfl hb_16 (by exact Nat.le_of_ble_eq_true rfl) (by rfl) rfl (fun w55 z55 hb_16 a55 => ?_)
        have S := S.upd a55 ge_16
        have hb_3 := hb_3.upd a55 n_3__16
        have hb_13 := hb_13.upd a55 n_13__16
        have nb := nb.upd a55
        have hI := hI.upd a55 (.inr rfl)
        have hC := hC.upd a55 (.inr rfl)
        have hb_16 : Has w55 b_16 (z.cells) _ := hb_16.now (by kernel_rfl)
        refine RL.nil (RC.back ?_)
        refine RC.seq ?_
        refine RC.draw rfl mxo (by kernel_rfl) ?_
        refine RQ.ev (.move rfl) rfl rfl ?_
        refine RQ.ev (.move rfl) rfl rfl ?_
        refine RQ.ev (.bin rfl rfl rfl) rfl rfl ?_
        refine RQ.ev (.move rfl) rfl rfl ?_
        refine RQ.split 136 rfl (fun h56 => ?_) (fun h56 => ?_)
        ·
          have hzC : C.nodes[i]? = some z := (by rw [hCe]; simp only []; rw [List.getElem?_set_ne (by omega)]; exact hz)
          refine RQ.ev (.field0 fo25_0 rfl) rfl rfl ?_
          refine RQ.ev (.load1 sh22 rfl (hb_13.cell rfl)) rfl rfl ?_
          refine RQ.ev (.move rfl) rfl rfl ?_
          refine RQ.ev (.indexS sl22 rfl rfl (by omega) (hC.now.nodes.is (i := 0) (by simp only [List.length_map]; omega))) rfl rfl ?_
          refine RQ.ev (.loadR (z.cells) sh35 rfl (hC.now.nodes.rowAt (enc := Node.cells) (i := i) hzC) rfl) rfl rfl ?_
          refine RQ.ev (.loadR (z.cells) sh35 rfl hb_16.row rfl) rfl rfl ?_
          refine RQ.ev (.as (v' := .bool false) (.neS (xs := z.cells) (ys := z.cells) fk35 eg35 sh35 rfl rfl rfl rfl rfl) (congrArg Value.bool ((by rw [eqL_cells]; simp)))) rfl rfl ?_
          refine RQ.ev (.pick_t rfl rfl) rfl rfl ?_
          refine RQ.nil (fun w57 s58 => RC.back ?_)
          have S := S.trans s58
          have hb_3 := hb_3.sub s58
          have hb_13 := hb_13.sub s58
          have nb := nb.sub s58
          have hI := hI.sub s58
          have hC := hC.sub s58
          have hb_16 := hb_16.sub s58
          refine RC.cond_f rfl ?_
          refine RC.skip (RC.back ?_)
          refine RC.region rfl ?_
          refine RL.ev (.as (.bin rfl rfl rfl) (wi64 (y := ((i + 1 : Nat) : Int)) (by omega) (by omega))) rfl rfl ?_
          refine RL.ev (.move rfl) rfl rfl ?_
          exact RL.nil (fun a ka => ⟨i + 1, ⟨by omega, hb_3, hb_13, fun k hk => nb k (.inl hk), hI.weaken fun _ h => .inl h, hC.weaken fun _ h => .inl h, S⟩, by omega, ka.keep (keep_of (by repeat (first | exact trivial | refine And.intro rfl ?_)))⟩)
        ·
          refine RQ.off rfl rfl ?_
          refine RQ.off rfl rfl ?_
          refine RQ.off rfl rfl ?_
          refine RQ.off rfl rfl ?_
          refine RQ.off rfl rfl ?_
          refine RQ.off rfl rfl ?_
          refine RQ.off rfl rfl ?_
          refine RQ.ev (.pick_f rfl rfl) rfl rfl ?_
          refine RQ.nil (fun w59 s60 => RC.back ?_)
          have S := S.trans s60
          have hb_3 := hb_3.sub s60
          have hb_13 := hb_13.sub s60
          have nb := nb.sub s60
          have hI := hI.sub s60
          have hC := hC.sub s60
          have hb_16 := hb_16.sub s60
          refine RC.cond_f rfl ?_
          refine RC.skip (RC.back ?_)
          refine RC.region rfl ?_
          refine RL.ev (.as (.bin rfl rfl rfl) (wi64 (y := ((i + 1 : Nat) : Int)) (by omega) (by omega))) rfl rfl ?_
          refine RL.ev (.move rfl) rfl rfl ?_
          exact RL.nil (fun a ka => ⟨i + 1, ⟨by omega, hb_3, hb_13, fun k hk => nb k (.inl hk), hI.weaken fun _ h => .inl h, hC.weaken fun _ h => .inl h, S⟩, by omega, ka.keep (keep_of (by repeat (first | exact trivial | refine And.intro rfl ?_)))⟩)
      ·
        refine RC.exit rfl (RC.back ?_)
        refine RC.seq ?_
        refine RC.region rfl ?_
        refine RL.call rfl ok12 (c_alive4 w53) rfl rfl ?_
        rintro _ w61 ⟨rfl, s62⟩
        have S := S.trans s62
        have hb_3 := hb_3.sub s62
        have hb_13 := hb_13.sub s62
        have nb := nb.sub s62
        have hI := hI.sub s62
        have hC := hC.sub s62
        refine RL.ev (.move rfl) rfl rfl ?_
        refine RL.ev (.field0 fo25_1 rfl) rfl rfl ?_
        refine RL.ev (.load1 sh23 rfl (hb_13.cell rfl)) rfl rfl ?_
        refine RL.ev (.len sl23 rfl) rfl rfl ?_
        refine RL.ev (.field0 fo25_1 rfl) rfl rfl ?_
        refine RL.ev (.load1 sh23 rfl (hb_3.cell rfl)) rfl rfl ?_
        refine RL.ev (.len sl23 rfl) rfl rfl ?_
        refine RL.ev (.as (.bin rfl rfl rfl) (wi64 (y := ((fewA A).free.length : Int) + 1) (by rfl) (by omega))) rfl rfl ?_
        refine RL.ev (.as (v' := .bool true) (.bin rfl rfl rfl) (congrArg Value.bool (decide_eq_true (by omega)))) rfl rfl ?_
        refine RL.ev (.pick_t rfl rfl) rfl rfl ?_
        refine RL.ev (.move rfl) rfl rfl ?_
        refine RL.ev (.field0 fo25_0 rfl) rfl rfl ?_
        refine RL.ev (.load1 sh22 rfl (hb_13.cell rfl)) rfl rfl ?_
        refine RL.ev (.move rfl) rfl rfl ?_
        refine RL.ev (.indexS sl22 rfl rfl (by omega) (hC.now.nodes.is (i := 0) (by simp only [List.length_map]; omega))) rfl rfl ?_
        refine RL.ev (.fieldA fo35_0 rfl) rfl rfl ?_
        refine RL.ev (.load1 sh3 rfl (hC.now.nodes.cell (enc := Node.cells) (i := p.toNat) (x := bareN ((y3.gen + 1) % 1048577)) (j := 0) (by rw [hCe]; simp only []; rw [List.getElem?_set_self (by omega)]) rfl)) rfl rfl ?_
        refine RL.ev (.as (v' := .bool true) (.bin rfl rfl rfl) (congrArg Value.bool (decide_eq_true (rfl)))) rfl rfl ?_
        refine RL.ev (.pick_t rfl rfl) rfl rfl ?_
        refine RL.ev (.move rfl) rfl rfl ?_
        refine RL.ev (.field0 fo25_1 rfl) rfl rfl ?_
        refine RL.ev (.load1 sh23 rfl (hb_13.cell rfl)) rfl rfl ?_
        refine RL.ev (.field0 fo25_1 rfl) rfl rfl ?_
        refine RL.ev (.load1 sh23 rfl (hb_3.cell rfl)) rfl rfl ?_
        refine RL.ev (.len sl23 rfl) rfl rfl ?_
        refine RL.ev (.indexS sl23 rfl rfl (by omega) (hC.now.free.is (i := 0) (by simp only [List.length_map]; omega))) rfl rfl ?_
        refine RL.ev (.load1 sh3 rfl (hC.now.free.one (enc := i6) (i := (fewA A).free.length) (x := p) (by rw [hCe]; simp))) rfl rfl ?_
        refine RL.ev (.move rfl) rfl rfl ?_
        refine RL.ev (.as (v' := .bool true) (.bin rfl rfl rfl) (congrArg Value.bool (decide_eq_true (rfl)))) rfl rfl ?_
        refine RL.ev (.pick_t rfl rfl) rfl rfl ?_
        refine RL.ev (.assign rfl) rfl rfl ?_
        refine RL.nil (RC.back ?_)
        refine RC.done (rs := [.tmp 6]) (vs := [_]) rfl rfl ⟨rfl, trivial⟩ ?_
        -- end 10
        exact ⟨rfl, S⟩
end Go.Proofs.Ytfcmbojlflgpmaa
