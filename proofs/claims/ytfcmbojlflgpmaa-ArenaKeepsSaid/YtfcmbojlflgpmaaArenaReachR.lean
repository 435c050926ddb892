/-
  The reference's At and Reach; two rows of numbers told apart.
-/
import Derived.Test.YtfcmbojlflgpmaaArenaReachQ
set_option linter.unusedVariables false
set_option linter.unusedSimpArgs false
namespace Go.Proofs.Ytfcmbojlflgpmaa
open Go Go.XL

def atA (A : Ar) (r : Int) : Int := match getA A r with
  | some _ => placeR r
  | none => -1
theorem atA_no {A : Ar} {r : Int} (h : getA A r = none) : atA A r = -1 := by rw [atA, h]
theorem atA_yes {A : Ar} {r : Int} {x : Node} (h : getA A r = some x) : atA A r = placeR r := by rw [atA, h]
theorem placeR_not {r : Int} (h : ¬ nodeR r) : placeR r = -1 := if_neg h
theorem c_r4At (A : Ar) (na fa : Option Addr) (nc fc : Nat) (r : Int) (hr : U64 r) (w : World) (hA : ArR w na fa A) (hl : A.nodes.length ≤ 1000000000) :
    FC Try.prog 19 [arV na fa nc fc A, .int .u64 r] w (Val (.int .i64 (atA A r)) w) := by
  have hN := hA.nodes
  have hFr := hA.free
  have hu : 0 ≤ r ∧ r < 18446744073709551616 := hr
  have nodeq : r = 0 ∨ gen3 r < 0 → atA A r = -1 := by
    intro h
    refine atA_no (getA_neg (.inl ?_))
    rw [placeR_not]
    · omega
    · intro hn
      have hn2 := (nodeR_iff r).1 hn
      rcases h with h | h
      · exact hn2.1 h
      · have := (gen3_not r hr hn2.1).1 h
        rw [hn.2] at this
        cases this
  refine FC.intro Try.func19 rfl Try.ntmps19 rfl ?_
  have S := Sub.refl w
  refine RC.seq ?_
  refine RC.region rfl ?_
  refine RL.box rfl rfl rfl (fun b_2 w_2 e_2 z_2 hb_2 s_2 => ?_)
  have ge_2 := S.le e_2
  have S := S.trans s_2
  have hb_2 : Has w_2 b_2 ([.slice na A.nodes.length nc, .slice fa A.free.length fc]) _ := hb_2
  refine RL.ev (.assign rfl) rfl rfl ?_
  refine RL.nil (RC.back ?_)
  refine RC.seq ?_
  refine RC.seq ?_
  refine RC.region rfl ?_
  refine RL.ev (.move rfl) rfl rfl ?_
  refine RL.ev (.bin rfl rfl rfl) rfl rfl ?_
  refine RL.ev (.move rfl) rfl rfl ?_
  refine RL.split 8 rfl (fun h1 => ?_) (fun h1 => ?_)
  ·
    have h0 := h1
    refine RL.off rfl rfl ?_
    refine RL.off rfl rfl ?_
    refine RL.off rfl rfl ?_
    refine RL.ev (.pick_t rfl rfl) rfl rfl ?_
    refine RL.nil (RC.back ?_)
    refine RC.cond_t rfl ?_
    refine RC.seq ?_
    refine RC.region rfl ?_
    refine RL.ev (.assign rfl) rfl rfl ?_
    refine RL.nil (RC.back ?_)
    refine RC.done (rs := [.tmp 4]) (vs := [_]) rfl rfl ⟨rfl, trivial⟩ ?_
    -- end 1
    rw [nodeq (.inl h0)]
    exact ⟨rfl, S⟩
  ·
    have h0 := h1
    refine RL.ev (.move rfl) rfl rfl ?_
    refine RL.call rfl ok32 (c_r3Gen r hr w_2) rfl rfl ?_
    rintro _ w2 ⟨rfl, s3⟩
    have S := S.trans s3
    have hb_2 := hb_2.sub s3
    refine RL.ev (.bin rfl rfl rfl) rfl rfl ?_
    refine RL.ev (.pick_f rfl rfl) rfl rfl ?_
    refine RL.nil (RC.back ?_)
    refine RC.cond_dec rfl (fun h4 => ?_) (fun h4 => ?_)
    ·
      have h1 := h4
      refine RC.seq ?_
      refine RC.region rfl ?_
      refine RL.ev (.assign rfl) rfl rfl ?_
      refine RL.nil (RC.back ?_)
      refine RC.done (rs := [.tmp 4]) (vs := [_]) rfl rfl ⟨rfl, trivial⟩ ?_
      -- end 2
      rw [nodeq (.inr h1)]
      exact ⟨rfl, S⟩
    ·
      have hnode : nodeR r := ⟨h0, Bool.of_not_eq_false (mt (gen3_not r hr h0).2 h4)⟩
      have hn2 := (nodeR_iff r).1 hnode
      have hpl : placeR r = r % 65536 - 1 := if_pos hnode
      have hg3 : gen3 r = genR r := (by rw [genR, if_pos hnode, gen3, if_neg (by omega)])
      refine RC.skip (RC.back ?_)
      refine RC.seq ?_
      refine RC.region rfl ?_
      refine RL.ev (.move rfl) rfl rfl ?_
      refine RL.ev (.as (v' := .int .u64 (r % 65536)) (.rem rfl rfl (by decide)) (by rw [tmodE hr.1])) rfl rfl ?_
      refine RL.ev (.as (.conv i32 i3 rfl) (wi64 (y := r % 65536) (by rfl) (by omega))) rfl rfl ?_
      refine RL.ev (.as (.bin rfl rfl rfl) (wi64 (y := placeR r) (by omega) (by omega))) rfl rfl ?_
      refine RL.ev (.assign rfl) rfl rfl ?_
      refine RL.nil (RC.back ?_)
      refine RC.seq ?_
      refine RC.seq ?_
      refine RC.draw rfl mxo (by kernel_rfl) ?_
      refine RQ.ev (.move rfl) rfl rfl ?_
      refine RQ.ev (.field0 fo25_0 rfl) rfl rfl ?_
      refine RQ.ev (.load1 sh22 rfl (hb_2.cell rfl)) rfl rfl ?_
      refine RQ.ev (.len sl22 rfl) rfl rfl ?_
      refine RQ.ev (.bin rfl rfl rfl) rfl rfl ?_
      refine RQ.ev (.move rfl) rfl rfl ?_
      refine RQ.split 22 rfl (fun h5 => ?_) (fun h5 => ?_)
      ·
        have hlen := h5
        refine RQ.off rfl rfl ?_
        refine RQ.off rfl rfl ?_
        refine RQ.off rfl rfl ?_
        refine RQ.off rfl rfl ?_
        refine RQ.off rfl rfl ?_
        refine RQ.off rfl rfl ?_
        refine RQ.off rfl rfl ?_
        refine RQ.ev (.pick_t rfl rfl) rfl rfl ?_
        refine RQ.ev (.move rfl) rfl rfl ?_
        refine RQ.off rfl rfl ?_
        refine RQ.off rfl rfl ?_
        refine RQ.off rfl rfl ?_
        refine RQ.off rfl rfl ?_
        refine RQ.off rfl rfl ?_
        refine RQ.off rfl rfl ?_
        refine RQ.off rfl rfl ?_
        refine RQ.off rfl rfl ?_
        refine RQ.off rfl rfl ?_
        refine RQ.ev (.pick_t rfl rfl) rfl rfl ?_
        refine RQ.nil (fun w6 s7 => RC.back ?_)
        have S := S.trans s7
        have hb_2 := hb_2.sub s7
        refine RC.cond_t rfl ?_
        refine RC.seq ?_
        refine RC.region rfl ?_
        refine RL.ev (.assign rfl) rfl rfl ?_
        refine RL.nil (RC.back ?_)
        refine RC.done (rs := [.tmp 4]) (vs := [_]) rfl rfl ⟨rfl, trivial⟩ ?_
        -- end 3
        rw [atA_no (getA_neg (by omega))]
        exact ⟨rfl, S⟩
      ·
        obtain ⟨x, hx⟩ := getSome (l := A.nodes) (i := (placeR r).toNat) (by omega)
        have hga := getA_at (by omega) hx
        refine RQ.ev (.field0 fo25_0 rfl) rfl rfl ?_
        refine RQ.ev (.load1 sh22 rfl (hb_2.cell rfl)) rfl rfl ?_
        refine RQ.ev (.move rfl) rfl rfl ?_
        refine RQ.ev (.indexS sl22 rfl rfl (by omega) (hN.is (i := 0) (by simp only [List.length_map]; omega))) rfl rfl ?_
        refine RQ.ev (.fieldA fo35_0 rfl) rfl rfl ?_
        refine RQ.ev (.load1 sh3 rfl ((hN.sub S).cell (enc := Node.cells) (j := 0) hx rfl)) rfl rfl ?_
        refine RQ.ev (.bin rfl rfl rfl) rfl rfl ?_
        refine RQ.ev (.pick_f rfl rfl) rfl rfl ?_
        refine RQ.ev (.move rfl) rfl rfl ?_
        refine RQ.split 31 rfl (fun h8 => ?_) (fun h8 => ?_)
        ·
          have hk := h8
          refine RQ.off rfl rfl ?_
          refine RQ.off rfl rfl ?_
          refine RQ.off rfl rfl ?_
          refine RQ.off rfl rfl ?_
          refine RQ.off rfl rfl ?_
          refine RQ.off rfl rfl ?_
          refine RQ.off rfl rfl ?_
          refine RQ.off rfl rfl ?_
          refine RQ.off rfl rfl ?_
          refine RQ.ev (.pick_t rfl rfl) rfl rfl ?_
          refine RQ.nil (fun w9 s10 => RC.back ?_)
          have S := S.trans s10
          have hb_2 := hb_2.sub s10
          refine RC.cond_t rfl ?_
          refine RC.seq ?_
          refine RC.region rfl ?_
          refine RL.ev (.assign rfl) rfl rfl ?_
          refine RL.nil (RC.back ?_)
          refine RC.done (rs := [.tmp 4]) (vs := [_]) rfl rfl ⟨rfl, trivial⟩ ?_
          -- end 4
          rw [atA_no (hga.trans (if_pos (.inl hk)))]
          exact ⟨rfl, S⟩
        ·
          have hk := h8
          refine RQ.ev (.field0 fo25_0 rfl) rfl rfl ?_
          refine RQ.ev (.load1 sh22 rfl (hb_2.cell rfl)) rfl rfl ?_
          refine RQ.ev (.move rfl) rfl rfl ?_
          refine RQ.ev (.indexS sl22 rfl rfl (by omega) (hN.is (i := 0) (by simp only [List.length_map]; omega))) rfl rfl ?_
          refine RQ.ev (.fieldA fo35_1 rfl) rfl rfl ?_
          refine RQ.ev (.load1 sh3 rfl ((hN.sub S).cell (enc := Node.cells) (j := 1) hx rfl)) rfl rfl ?_
          refine RQ.ev (.move rfl) rfl rfl ?_
          refine RQ.call rfl ok32 (fun w' s' => c_r3Gen r hr w') rfl rfl ?_
          refine RQ.ev (.bin rfl rfl rfl) rfl rfl ?_
          refine RQ.ev (.pick_f rfl rfl) rfl rfl ?_
          refine RQ.nil (fun w11 s12 => RC.back ?_)
          have S := S.trans s12
          have hb_2 := hb_2.sub s12
          refine RC.cond_dec rfl (fun h13 => ?_) (fun h13 => ?_)
          ·
            have hg := h13
            refine RC.seq ?_
            refine RC.region rfl ?_
            refine RL.ev (.assign rfl) rfl rfl ?_
            refine RL.nil (RC.back ?_)
            refine RC.done (rs := [.tmp 4]) (vs := [_]) rfl rfl ⟨rfl, trivial⟩ ?_
            -- end 5
            rw [atA_no (hga.trans (if_pos (.inr (by omega))))]
            exact ⟨rfl, S⟩
          ·
            have hg := h13
            refine RC.skip (RC.back ?_)
            refine RC.seq ?_
            refine RC.region rfl ?_
            refine RL.ev (.move rfl) rfl rfl ?_
            refine RL.ev (.assign rfl) rfl rfl ?_
            refine RL.nil (RC.back ?_)
            refine RC.done (rs := [.tmp 4]) (vs := [_]) rfl rfl ⟨rfl, trivial⟩ ?_
            -- end 6
            rw [atA_yes (hga.trans (if_neg (by rintro (e | e); exact hk e; omega)))]
            exact ⟨rfl, S⟩

theorem add_add (a : Addr) (i j : Nat) : (a.add i).add j = a.add (i + j) := by
  unfold Addr.add
  by_cases hi : i = 0
  · subst hi; simp
  · by_cases hj : j = 0
    · subst hj; simp
    · rw [if_neg hj, if_neg hi, if_neg (by omega), Nat.add_assoc]
theorem kids_row {w : World} {ad : Addr} {x : Node} (h : Row w ad x.cells) : Row w (ad.add 5) (x.kids.map u6) := by
  intro i v hv
  have hi : i < 9 := by have := lt_of_get hv; simpa [Node.kids] using this
  have e : (ad.add 5).add i = ad.add (5 + i) := by rw [add_add]
  rw [e]
  refine h (5 + i) v ?_
  rcases i with _|_|_|_|_|_|_|_|_|i
  all_goals first | exact hv | omega
theorem atA_form (A : Ar) (r : Int) : (atA A r < 0 → getA A r = none) ∧ (¬ atA A r < 0 → ∃ x, getA A r = some x ∧ atA A r = placeR r) := by
  cases h : getA A r with
  | none => rw [atA_no h]; exact ⟨fun _ => rfl, fun h => absurd h (by omega)⟩
  | some x => rw [atA_yes h]; have := getA_rng h; exact ⟨fun h => absurd h (by omega), fun _ => ⟨x, rfl, rfl⟩⟩
theorem c_r4hasM (l : List Int) (x : Int) (a : Option Addr) (c m : Nat) (hm : m = l.length) (w : World) (hs : Sl w a 1 (l.map fun x => [i6 x])) (hlen : l.length ≤ 1000000000) :
    FC Try.prog 26 [.slice a m c, .int .i64 x] w (Val (.int .i64 (l.count x : Int)) w) := by
  subst hm; exact c_r4has l x a c w hs hlen
theorem c_r4Reach (w0 : World) (E : Nat) (hE : w0.heap.size ≤ E) (A : Ar) (na fa : Option Addr) (nc fc : Nat) (hA : ArR w0 na fa A) (hn : A.nodes.length ≤ 512) : ∀ (k : Nat) (out : List Int) (a : Option Addr) (c : Nat) (m : Nat) (r : Int) (I : World → Prop) (w : World), m = (out.map fun x => [i6 x]).length → U64 r → A.nodes.length < out.length + k → Pl A out → Sub w0 w → E ≤ w.heap.size → Own E w 3 1 (.slice a m c) (out.map fun x => [i6 x]) → Imm (Nown (fun _ => False) (.slice a m c)) I w →
    FC Try.prog 20 [arV na fa nc fc A, .slice a m c, .int .u64 r] w (fun v w' => ∃ a' c', v = .slice a' ((visitF A k out r).map fun x => [i6 x]).length c' ∧ Own E w' 3 1 (.slice a' ((visitF A k out r).map fun x => [i6 x]).length c') ((visitF A k out r).map fun x => [i6 x]) ∧ Sub w0 w' ∧ E ≤ w'.heap.size ∧ Imm (Nown (fun _ => False) (.slice a' ((visitF A k out r).map fun x => [i6 x]).length c')) I w') := by
  intro k
  induction k with
  | zero => intro out a c m r I w _ _ hk hp; exact absurd hp.len (by omega)
  | succ k ih =>
  intro out a c m r I w hm hr hk hp S szB o hI
  subst hm
  have hpp := hp.len
  refine FC.intro Try.func20 rfl Try.ntmps20 rfl ?_
  refine RC.seq ?_
  refine RC.region rfl ?_
  refine RL.box rfl rfl rfl (fun b_3 w_3 e_3 z_3 hb_3 s_3 => ?_)
  have ge_3 := S.le e_3
  have d_o_b_3 := o.neNew e_3
  have S := S.trans s_3
  have o := o.sub s_3
  have szB := Nat.le_trans szB s_3.size
  have hI := hI.sub s_3
  have hb_3 : Has w_3 b_3 ([.slice na A.nodes.length nc, .slice fa A.free.length fc]) _ := hb_3
  refine RL.ev (.assign rfl) rfl rfl ?_
  refine RL.nil (RC.back ?_)
  refine RC.seq ?_
  refine RC.region rfl ?_
  refine RL.ev (.loadR ([.slice na A.nodes.length nc, .slice fa A.free.length fc]) sh25 rfl hb_3.row rfl) rfl rfl ?_
  refine RL.ev (.move rfl) rfl rfl ?_
  refine RL.call rfl ok19 (c_r4At A na fa nc fc r hr w_3 (hA.sub S) (by omega)) rfl rfl ?_
  rintro _ w1 ⟨rfl, s2⟩
  have S := S.trans s2
  have o := o.sub s2
  have szB := Nat.le_trans szB s2.size
  have hI := hI.sub s2
  have hb_3 := hb_3.sub s2
  refine RL.ev (.assign rfl) rfl rfl ?_
  refine RL.nil (RC.back ?_)
  refine RC.seq ?_
  refine RC.seq ?_
  refine RC.region rfl ?_
  refine RL.ev (.move rfl) rfl rfl ?_
  refine RL.ev (.bin rfl rfl rfl) rfl rfl ?_
  refine RL.ev (.move rfl) rfl rfl ?_
  refine RL.split 15 rfl (fun h3 => ?_) (fun h3 => ?_)
  ·
    have hno := (atA_form A r).1 h3
    refine RL.off rfl rfl ?_
    refine RL.off rfl rfl ?_
    refine RL.off rfl rfl ?_
    refine RL.off rfl rfl ?_
    refine RL.ev (.pick_t rfl rfl) rfl rfl ?_
    refine RL.nil (RC.back ?_)
    refine RC.cond_t rfl ?_
    refine RC.seq ?_
    refine RC.region rfl ?_
    refine RL.ev (.move rfl) rfl rfl ?_
    refine RL.ev (.assign rfl) rfl rfl ?_
    refine RL.nil (RC.back ?_)
    refine RC.done (rs := [.tmp 6]) (vs := [_]) rfl rfl ⟨rfl, trivial⟩ ?_
    -- end 1
    rw [visitF_no hno]
    exact ⟨_, _, rfl, o, S, szB, hI⟩
  ·
    obtain ⟨x, hx, hax⟩ := (atA_form A r).2 h3
    have hrng := getA_rng hx
    refine RL.ev (.move rfl) rfl rfl ?_
    refine RL.ev (.as (v' := .int .i64 (placeR r)) (.move rfl) (by rw [hax])) rfl rfl ?_
    refine RL.call rfl ok26 (c_r4hasM out (placeR r) a c _ (List.length_map _) w1 o.sl.1 (by omega)) rfl rfl ?_
    rintro _ w4 ⟨rfl, s5⟩
    have S := S.trans s5
    have o := o.sub s5
    have szB := Nat.le_trans szB s5.size
    have hI := hI.sub s5
    have hb_3 := hb_3.sub s5
    refine RL.ev (.bin rfl rfl rfl) rfl rfl ?_
    refine RL.ev (.pick_f rfl rfl) rfl rfl ?_
    refine RL.nil (RC.back ?_)
    refine RC.cond_dec rfl (fun h6 => ?_) (fun h6 => ?_)
    ·
      have hin := List.count_pos_iff.1 (by omega : 0 < out.count (placeR r))
      refine RC.seq ?_
      refine RC.region rfl ?_
      refine RL.ev (.move rfl) rfl rfl ?_
      refine RL.ev (.assign rfl) rfl rfl ?_
      refine RL.nil (RC.back ?_)
      refine RC.done (rs := [.tmp 6]) (vs := [_]) rfl rfl ⟨rfl, trivial⟩ ?_
      -- end 2
      rw [visitF_met hx hin]
      exact ⟨_, _, rfl, o, S, szB, hI⟩
    ·
      have hnin : placeR r ∉ out := (fun h => by have := List.count_pos_iff.2 h; omega)
      have hp2 := hp.add hrng hnin
      have hpp2 := hp2.len
      rw [List.length_append] at hpp2
      refine RC.skip (RC.back ?_)
      refine RC.seq ?_
      refine RC.region rfl ?_
      refine RL.ev (.move rfl) rfl rfl ?_
      refine RL.ev (.as (v' := .int .i64 (placeR r)) (.move rfl) (by rw [hax])) rfl rfl ?_
      refine RL.buildSlice1 sl23 _ ze3 rfl rfl rfl rfl rfl rfl rfl (fun b_24 w_24 e_24 z_24 hb_24 s_24 => ?_)
      have ge_24 := S.le e_24
      have n_3__24 := hb_3.ne e_24
      have d_o_b_24 := o.neNew e_24
      have S := S.trans s_24
      have o := o.sub s_24
      have szB := Nat.le_trans szB s_24.size
      have hI := hI.sub s_24
      have hb_3 := hb_3.sub s_24
      have sz_25 := S.size
      have ltb_3_25 := hb_3.lt
      have ltb_24_25 := hb_24.lt
      refine RL.append2 (base := E) (rows := out.map fun x => [i6 x]) (news := [_]) sl23 ze3 rfl rfl rfl rfl (.inl o) (Has.slOne hb_24) rfl (by intro r hr; rw [List.mem_singleton] at hr; subst hr; rfl) rfl (by (try simp only [List.length_map, List.length_nil, List.length_append, List.length_cons]); omega) (by (try simp only [List.length_map, List.length_nil, List.length_append, List.length_cons]); omega) (by omega) rfl rfl (fun v_25 w_25 hc_25 ho_25 ag_25 ob_25 => ?_)
      have o25 := ho_25 (.inl (by simp))
      rw [show _ ++ [_] = ((out ++ [placeR r]).map fun x => [i6 x]) from by rw [List.map_append]; rfl] at o25
      have d_o25_b_3 := obNe ob_25 d_o_b_3 hb_3.lt
      have S := S.agrN ag_25 (fun k e => Nat.le_trans (by omega) e.2)
      have szB := Nat.le_trans szB ag_25.size
      have hI := Imm.app (hI.weaken (fun _ h => h)) (ag_25.mono fun k _ e => e.1) ob_25
      have hb_3 := hb_3.step ag_25 (fun e => d_o_b_3 _ e.1 rfl)
      obtain ⟨a_25, c_25, rfl, k_25⟩ := o25.form
      refine RL.ev (.assign rfl) rfl rfl ?_
      refine RL.nil (RC.back ?_)
      refine RC.seq ?_
      refine RC.seq ?_
      refine RC.region rfl ?_
      refine RL.ev (.field0 fo25_0 rfl) rfl rfl ?_
      refine RL.ev (.load1 sh22 rfl (hb_3.cell rfl)) rfl rfl ?_
      refine RL.ev (.as (v' := .int .i64 (placeR r)) (.move rfl) (by rw [hax])) rfl rfl ?_
      refine RL.ev (.indexS sl22 rfl rfl (by omega) (hA.nodes.is (i := 0) (by simp only [List.length_map]; omega))) rfl rfl ?_
      refine RL.ev (.fieldA fo35_5 rfl) rfl rfl ?_
      refine RL.ev (.loadR (x.kids.map u6) sh33 rfl (kids_row ((hA.nodes.sub S).rowAt (enc := Node.cells) (getA_get hx).1)) rfl) rfl rfl ?_
      refine RL.ev (.move rfl) rfl rfl ?_
      refine RL.nil (RC.back ?_)
      refine RC.block ?_
      refine RC.loop (α := Nat × Option Addr × Nat) (fun y => [(1, .slice y.2.1 ((metK A k x.kids (out ++ [placeR r]) y.1).map fun x => [i6 x]).length y.2.2), (3, .pointer (some ⟨b_3, 0, none⟩)), (31, .agg (x.kids.map u6).toArray), (32, .int .i64 (y.1 : Int))]) (fun y w7 => y.1 ≤ 9 ∧ Pl A (metK A k x.kids (out ++ [placeR r]) y.1) ∧ out.length + 1 ≤ (metK A k x.kids (out ++ [placeR r]) y.1).length ∧ Own E w7 3 1 (.slice y.2.1 ((metK A k x.kids (out ++ [placeR r]) y.1).map fun x => [i6 x]).length y.2.2) ((metK A k x.kids (out ++ [placeR r]) y.1).map fun x => [i6 x]) ∧ Imm (Nown (fun _ => False) (.slice y.2.1 ((metK A k x.kids (out ++ [placeR r]) y.1).map fun x => [i6 x]).length y.2.2)) (fun u => I u ∧ Has u b_3 [.slice na A.nodes.length nc, .slice fa A.free.length fc] 25) w7 ∧ Sub w0 w7 ∧ E ≤ w7.heap.size) (fun y => 9 - y.1) (0, a_25, c_25) (keep_of (by repeat (first | exact trivial | refine And.intro rfl ?_))) (⟨by omega, by rw [metK_0]; exact ⟨hp2, by simp, o25, hI.and (hb_3.imm (fun h => h.elim id (fun e => d_o25_b_3 _ e rfl))), S, szB⟩⟩) (fun y w7 hJ => ?_)
      obtain ⟨j, aj, cj⟩ := y; obtain ⟨hj, hpj, hlj, o, hI, S, szB⟩ := hJ; simp only [] at hj hpj hlj o hI; have hb_3 := hI.now.2
      refine RC.seq ?_
      refine RC.region rfl ?_
      refine RL.ev (.bin rfl rfl rfl) rfl rfl ?_
      refine RL.nil (RC.back ?_)
      refine RC.seq ?_
      refine RC.cond_dec rfl (fun h8 => ?_) (fun h8 => ?_)
      ·
        obtain ⟨kj, hkj⟩ := getSome (l := x.kids) (i := j) (by show j < 9; omega)
        refine RC.skip (RC.back ?_)
        refine RC.seq ?_
        refine RC.block ?_
        refine RC.seq ?_
        refine RC.region rfl ?_
        refine RL.ev (.index1 ar33 sh32 rfl rfl (by omega) ((by simp [hkj] : (x.kids.map u6).toArray[(j : Int).toNat * 1]? = some (u6 kj)))) rfl rfl ?_
        refine RL.ev (.assign rfl) rfl rfl ?_
        refine RL.nil (RC.back ?_)
        refine RC.region rfl ?_
        refine RL.ev (.loadR ([.slice na A.nodes.length nc, .slice fa A.free.length fc]) sh25 rfl hb_3.row rfl) rfl rfl ?_
        refine RL.ev (.move rfl) rfl rfl ?_
        refine RL.ev (.move rfl) rfl rfl ?_
        refine RL.call rfl ok20 (ih (metK A k x.kids (out ++ [placeR r]) j) aj cj _ kj _ w7 rfl ((hA.nok x (getA_nok hx)).kids kj (List.mem_of_getElem? hkj)) (by omega) hpj S szB o hI) rfl rfl ?_
        rintro vr w9 ⟨a2, c2, hr2, o2, S, szB2, hI2⟩
        rw [← metK_succ hkj] at hr2 o2 hI2
        subst hr2
        have hv := metK_pl hkj hpj hlj
        refine RL.ev (.assign rfl) rfl rfl ?_
        refine RL.nil (RC.back ?_)
        refine RC.region rfl ?_
        refine RL.ev (.as (.bin rfl rfl rfl) (wi64 (y := ((j + 1 : Nat) : Int)) (by omega) (by omega))) rfl rfl ?_
        refine RL.ev (.move rfl) rfl rfl ?_
        exact RL.nil (fun a ka => ⟨(j + 1, a2, c2), ⟨by omega, hv.1, hv.2, o2, hI2, S, szB2⟩, by omega, ka.keep (keep_of (by repeat (first | exact trivial | refine And.intro rfl ?_)))⟩)
      ·
        obtain rfl : j = 9 := (by omega)
        refine RC.exit rfl (RC.back ?_)
        refine RC.seq ?_
        refine RC.region rfl ?_
        refine RL.ev (.move rfl) rfl rfl ?_
        refine RL.ev (.assign rfl) rfl rfl ?_
        refine RL.nil (RC.back ?_)
        refine RC.done (rs := [.tmp 6]) (vs := [_]) rfl rfl ⟨rfl, trivial⟩ ?_
        -- end 3
        rw [visitF_new hx hnin, ← metK_all A k x.kids _ (n := 9) rfl]
        exact ⟨_, _, rfl, o, S, szB, hI.imp fun _ h => h.1⟩
end Go.Proofs.Ytfcmbojlflgpmaa
