/-
  Nodes that are dropped.
-/
import Derived.Test.YtfcmbojlflgpmaaArenaMake
set_option linter.unusedVariables false
set_option linter.unusedSimpArgs false
namespace Go.Proofs.Ytfcmbojlflgpmaa
open Go Go.XL

/-- one node is free again -/
def dropStep (A : Ar) (p : Int) : Option Ar :=
  if 0 ≤ p ∧ p < A.nodes.length then
    match A.nodes[p.toNat]? with
    | none => none
    | some y => if y.kind = 0 then none else some ⟨A.nodes.set p.toNat (bareN ((y.gen + 1) % 1048577)), A.free ++ [p]⟩
  else none
def dropAll (A : Ar) : List Int → Option Ar
  | [] => some A
  | p :: l => match dropStep A p with | none => none | some A' => dropAll A' l
theorem dropStep_no {A : Ar} {p : Int} (h : p < 0 ∨ A.nodes.length ≤ p) : dropStep A p = none := by rw [dropStep, if_neg (by omega)]
theorem dropStep_at {A : Ar} {p : Int} {y : Node} (h : 0 ≤ p ∧ p < A.nodes.length) (hy : A.nodes[p.toNat]? = some y) : dropStep A p = if y.kind = 0 then none else some ⟨A.nodes.set p.toNat (bareN ((y.gen + 1) % 1048577)), A.free ++ [p]⟩ := by rw [dropStep, if_pos h, hy]
theorem dropStep_len {A A' : Ar} {p : Int} (h : dropStep A p = some A') : A'.nodes.length = A.nodes.length ∧ A'.free.length = A.free.length + 1 := by
  unfold dropStep at h
  split at h
  · split at h
    · cases h
    · split at h
      · cases h
      · cases h; simp
  · cases h
theorem pigeon : ∀ (n : Nat) (l : List Int), l.Nodup → (∀ x ∈ l, 0 ≤ x ∧ x < n) → l.length ≤ n
  | 0, l, _, h => by
    cases l with
    | nil => simp
    | cons x l => have := h x (by simp); omega
  | n + 1, l, hn, h => by
    have h1 : ∀ x ∈ l.erase (n : Int), 0 ≤ x ∧ x < n := fun x hx => by
      have := (hn.mem_erase_iff).1 hx
      have := h x this.2
      omega
    have := pigeon n (l.erase (n : Int)) (hn.erase _) h1
    by_cases hm : (n : Int) ∈ l
    · rw [List.length_erase_of_mem hm] at this; omega
    · rw [List.erase_of_not_mem hm] at this; omega
theorem dropStep_ok {A A' : Ar} {p : Int} (hA : AOk A) (h : dropStep A p = some A') : AOk A' := by
  unfold dropStep at h
  split at h
  rotate_left
  · cases h
  rename_i hp
  split at h
  · cases h
  rename_i y hy
  split at h
  · cases h
  rename_i hk
  cases h
  have hat := aok_at hA hy
  rw [Int.toNat_of_nonneg hp.1] at hat
  have hnf : p ∉ A.free := fun h => hk (hat.2.1.2 h)
  have hw := (well_iff y).1 hat.1
  have hnd : (A.free ++ [p]).Nodup := by
    rw [List.nodup_append]
    exact ⟨hA.nodup, by simp, fun a ha b hb e => by rw [List.mem_singleton] at hb; subst hb; subst e; exact hnf ha⟩
  have hall : ∀ x ∈ A.free ++ [p], 0 ≤ x ∧ x < A.nodes.length := fun x hx => (List.mem_append.1 hx).elim (hA.free x) (fun h => by rw [List.mem_singleton] at h; omega)
  have hg : well (bareN ((y.gen + 1) % 1048577)) = true := by
    rw [well_iff]
    refine ⟨?_, rfl⟩
    simp only [bareN]
    omega
  have get : ∀ (i : Nat) x, (A.nodes.set p.toNat (bareN ((y.gen + 1) % 1048577)))[i]? = some x → (i : Int) = p ∧ x = bareN ((y.gen + 1) % 1048577) ∨ ¬ (i : Int) = p ∧ A.nodes[i]? = some x := by
    intro i x hx
    rw [List.getElem?_set] at hx
    split at hx
    · split at hx
      · cases hx; exact .inl ⟨by omega, rfl⟩
      · cases hx
    · exact .inr ⟨by omega, hx⟩
  refine ⟨by simpa using hA.one, by simpa using hA.most, ?_, by simpa using hall, hnd, ?_, ?_, ?_⟩
  · -- as many are free as there are places, at most
    have := pigeon A.nodes.length (A.free ++ [p]) hnd hall
    simpa using this
  · intro x hx
    obtain ⟨i, hi⟩ := List.getElem?_of_mem hx
    rcases get i x hi with ⟨_, rfl⟩ | ⟨_, h⟩
    · exact hg
    · exact hA.well x (List.mem_of_getElem? h)
  · intro i x hi
    rcases get i x hi with ⟨e, rfl⟩ | ⟨ne, h⟩
    · simp [bareN, e]
    · have := hA.kind i x h
      rw [List.mem_append, List.mem_singleton]
      exact this.trans ⟨.inl, fun h => h.resolve_right ne⟩
  · intro i x hi hm
    rcases get i x hi with ⟨e, rfl⟩ | ⟨ne, h⟩
    · rfl
    · rw [List.mem_append, List.mem_singleton] at hm
      exact hA.bare i x h (hm.resolve_right ne)
theorem dropAll_ok : ∀ (l : List Int) {A A' : Ar}, AOk A → dropAll A l = some A' → AOk A'
  | [], A, A', hA, h => by simp only [dropAll] at h; cases h; exact hA
  | p :: l, A, A', hA, h => by
    simp only [dropAll] at h
    split at h
    · cases h
    · rename_i A1 h1
      exact dropAll_ok l (dropStep_ok hA h1) h
theorem dropAll_cons {A : Ar} {l : List Int} {i : Nat} {p : Int} (hp : l[i]? = some p) : dropAll A (l.drop i) = match dropStep A p with | none => none | some A' => dropAll A' (l.drop (i + 1)) := by
  have hi := lt_of_get hp
  rw [List.drop_eq_getElem_cons hi, getElem_of hp hi]
  rfl
theorem node_len (x : Node) : x.cells.length = 16 := rfl
theorem node_rows (l : List Node) : ∀ r ∈ l.map Node.cells, r.length = 16 := fun r hr => by obtain ⟨z, _, rfl⟩ := List.mem_map.1 hr; rfl

theorem c_aDrop (A : Ar) (na fa : Option Addr) (nc fc : Nat) (l : List Int) (pa : Option Addr) (pc : Nat) (hl : l.length ≤ 10000) (hli : ∀ x ∈ l, I64 x) (w : World) (hA : ArR w na fa A) (hfc : A.free.length ≤ fc) (hP : Sl w pa 1 (l.map fun x => [i6 x])) :
    FC Try.prog 10 [arV na fa nc fc A, .slice pa l.length pc] w (fun v w' => Sub w w' ∧ ((¬ AOk A ∨ dropAll A l = none) ∧ v = .tuple #[arV0, .int .i64 1] ∨
      AOk A ∧ ∃ A' av, dropAll A l = some A' ∧ v = .tuple #[av, .int .i64 0] ∧ ArO w w' na fa A av A')) := by
  have hN := hA.nodes
  have hFr := hA.free
  refine FC.intro Try.func10 rfl Try.ntmps10 rfl ?_
  have S := Sub.refl w
  refine RC.seq ?_
  refine RC.region rfl ?_
  refine RL.box rfl rfl rfl (fun b_2 w_2 e_2 z_2 hb_2 s_2 => ?_)
  have ge_2 := S.le e_2
  have S := S.trans s_2
  have hb_2 : Has w_2 b_2 ([.slice na A.nodes.length nc, .slice fa A.free.length fc]) _ := hb_2
  refine RL.alloc ze25 rfl rfl (fun b_4 w_4 e_4 z_4 hb_4 s_4 => ?_)
  have ge_4 := S.le e_4
  have n_2__4 := hb_2.ne e_4
  have S := S.trans s_4
  have hb_2 := hb_2.sub s_4
  refine RL.ev (.assign rfl) rfl rfl ?_
  refine RL.nil (RC.back ?_)
  refine RC.seq ?_
  refine RC.seq ?_
  refine RC.region rfl ?_
  refine RL.ev (.loadR ([.slice na A.nodes.length nc, .slice fa A.free.length fc]) sh25 rfl hb_2.row rfl) rfl rfl ?_
  refine RL.call rfl ok14 (c_aRight A na fa nc fc w_4 (hA.sub S)) rfl rfl ?_
  rintro _ w1 ⟨rfl, s2⟩
  have S := S.trans s2
  have hb_2 := hb_2.sub s2
  have hb_4 := hb_4.sub s2
  refine RL.ev (.not rfl) rfl rfl ?_
  refine RL.nil (RC.back ?_)
  refine RC.cond rfl (fun h3 => ?_) (fun h3 => ?_)
  ·
    have q1 : ¬ AOk A := (fun h => by have h2 := h3; rw [aokB_yes h] at h2; cases h2)
    refine RC.seq ?_
    refine RC.region rfl ?_
    refine RL.ev (.buildS ze25 pl25 rfl rfl) rfl rfl ?_
    refine RL.store sh25 rfl rfl rfl hb_4 (by exact Nat.le_of_ble_eq_true rfl) (by rfl) rfl (fun w4 z4 hb_4 a4 => ?_)
    have S := S.upd a4 ge_4
    have hb_2 := hb_2.upd a4 n_2__4
    have hb_4 : Has w4 b_4 ([.slice none 0 0, .slice none 0 0]) _ := hb_4.now (by kernel_rfl)
    refine RL.ev (.assign rfl) rfl rfl ?_
    refine RL.nil (RC.back ?_)
    refine RC.done (rs := [.cell 4 25, .tmp 5]) (vs := [_, _]) rfl rfl ⟨⟨_, rfl, .inr ⟨[.slice none 0 0, .slice none 0 0], sh25, hb_4.row, rfl⟩⟩, rfl, trivial⟩ ?_
    -- end 1
    exact ⟨S, .inl ⟨.inl q1, rfl⟩⟩
  ·
    have hok : AOk A := (aokB_iff A).1 (by simpa using h3)
    have hmost := hok.most
    have hone := hok.one
    have hfit := hok.fit
    refine RC.skip (RC.back ?_)
    refine RC.cutx (α := Option Addr × Nat) (fun x_ => [(1, .slice pa l.length pc), (2, .pointer (some ⟨b_2, 0, none⟩)), (4, .pointer (some ⟨b_4, 0, none⟩))]) (fun x_ w5 => ∃ B, b_2 < B ∧ b_4 < B ∧ w.heap.size ≤ B ∧ Own B w5 35 16 (.slice x_.1 (A.nodes.map Node.cells).length x_.2) (A.nodes.map Node.cells) ∧ Has w5 b_2 [.slice x_.1 (A.nodes.map Node.cells).length x_.2, .slice fa A.free.length A.free.length] 25 ∧ Has w5 b_4 [.slice none 0 0, .slice none 0 0] 25 ∧ Sub w w5) ?_ (fun x_ w5 hJ => ?_)
    ·
      refine RC.drawD (fun k => k = b_2) [7, 9] w1.heap.size 10 rfl rfl mxo (fun w6 s7 => ?_)
      have hNN : ∀ k, ((k = b_2) ∨ w1.heap.size ≤ k) → w.heap.size ≤ k := fun k e => e.elim (fun e => e ▸ ge_2) (fun e => Nat.le_trans S.size e)
      have ent_S := S.size
      have hN0 : ∀ k, w1.heap.size ≤ k → w.heap.size ≤ k := fun k e => Nat.le_trans S.size e
      have ltD_b_2 := hb_2.lt
      have ltD_b_4 := hb_4.lt
      have szD := Nat.le_refl w1.heap.size
      have S := S.trans s7
      have hb_2 := hb_2.sub s7
      have hb_4 := hb_4.sub s7
      have szD := Nat.le_trans szD s7.size
      refine RD.take 0 rfl (by kernel_rfl) (by kernel_rfl) (by kernel_rfl) (fun w' s' => .field0 fo25_0 rfl) rfl rfl ?_
      refine RD.takeL 1 rfl (by kernel_rfl) (by kernel_rfl) (by kernel_rfl) (by kernel_rfl) (fun w' s' => .load1 sh22 rfl ((hb_2.step s' (fun e => Nat.not_le.2 ltD_b_2 e)).cell rfl)) rfl rfl ?_
      refine RD.take 3 rfl (by kernel_rfl) (by kernel_rfl) (by kernel_rfl) (fun w' s' => .field0 fo25_1 rfl) rfl rfl ?_
      refine RD.takeL 4 rfl (by kernel_rfl) (by kernel_rfl) (by kernel_rfl) (by kernel_rfl) (fun w' s' => .load1 sh23 rfl ((hb_2.step s' (fun e => Nat.not_le.2 ltD_b_2 e)).cell rfl)) rfl rfl ?_
      refine RD.all [2] (by kernel_rfl) rfl (RDs.cons rfl ?_ (RDs.nil))
      refine RL.call rfl ok24 (c_cloneNodes A.nodes na nc w6 (hN.sub S) (by omega)) rfl rfl ?_
      rintro u w8 ⟨ho, s9⟩
      have ltc := hb_2.lt
      have szC := szD
      have S := S.trans s9
      have hb_2 := hb_2.sub s9
      have hb_4 := hb_4.sub s9
      have szD := Nat.le_trans szD s9.size
      obtain ⟨ca, cc, rfl, kc⟩ := ho.form
      refine RD.back s9.agr ?_
      refine RD.take 6 rfl (by kernel_rfl) (by kernel_rfl) (by kernel_rfl) (fun w' s' => .field0 fo25_0 rfl) rfl rfl ?_
      refine RD.all [5] (by kernel_rfl) rfl (RDs.cons rfl ?_ (RDs.nil))
      refine RL.call rfl ok25 (c_clip A.free fa fc w8 hfc) rfl rfl ?_
      rintro _ w10 ⟨rfl, s11⟩
      have S := S.trans s11
      have hb_2 := hb_2.sub s11
      have hb_4 := hb_4.sub s11
      have szD := Nat.le_trans szD s11.size
      have ho := ho.sub s11
      refine RD.back s11.agr ?_
      refine RD.all [7] (by kernel_rfl) rfl (RDs.cons rfl ?_ (RDs.nil))
      refine RL.store sh22 rfl rfl rfl hb_2 (by exact Nat.le_of_ble_eq_true rfl) (by rfl) rfl (fun w12 z12 hb_2 a12 => ?_)
      have S := S.upd a12 ge_2
      have hb_4 := hb_4.upd a12 n_2__4.symm
      have szD := Nat.le_trans szD a12.size
      have ho := ho.upd a12 (by omega)
      refine RD.backW rfl (a12.mono fun k _ e => e ▸ (.inl (rfl))) ?_
      refine RD.take 8 rfl (by kernel_rfl) (by kernel_rfl) (by kernel_rfl) (fun w' s' => .field0 fo25_1 rfl) rfl rfl ?_
      refine RD.all [9] (by kernel_rfl) rfl (RDs.cons rfl ?_ (RDs.nil))
      refine RL.store sh23 rfl rfl rfl hb_2 (by exact Nat.le_of_ble_eq_true rfl) (by rfl) rfl (fun w13 z13 hb_2 a13 => ?_)
      have S := S.upd a13 ge_2
      have hb_4 := hb_4.upd a13 n_2__4.symm
      have szD := Nat.le_trans szD a13.size
      have ho := ho.upd a13 (by omega)
      refine RD.backW rfl (a13.mono fun k _ e => e ▸ (.inl (rfl))) ?_
      exact RD.done (by kernel_rfl) (fun a ka => ⟨(ca, cc), ⟨_, ltc, by have := ltD_b_4; have := szC; omega, by omega, ho, hb_2, hb_4, S⟩, ka.keep (keep_of (by repeat (first | exact trivial | refine And.intro rfl ?_)))⟩)
    obtain ⟨ca, cc⟩ := x_
    obtain ⟨B0, q_2, q_4, q_w, ho, hb_2, hb_4, S⟩ := hJ
    obtain ⟨b_C, cap_C, ex_C, f_C, g_C, k_C, m_C, hb_C, l_C⟩ := ho.has (by simp only [List.length_map]; omega)
    have ge_C := Nat.le_trans q_w g_C
    simp only [Value.slice.injEq, true_and] at f_C
    obtain ⟨rfl, rfl⟩ := f_C
    have nb_C_b_2 : b_C ≠ b_2 := by omega
    have nb_C_b_4 : b_C ≠ b_4 := by omega
    have lt_2 := hb_2.lt
    have lt_4 := hb_4.lt
    have lt_C := hb_C.lt
    rw [List.length_map] at *
    refine RC.seq ?_
    refine RC.seq ?_
    refine RC.region rfl ?_
    refine RL.ev (.move rfl) rfl rfl ?_
    refine RL.ev (.len sl23 rfl) rfl rfl ?_
    refine RL.ev (.move rfl) rfl rfl ?_
    obtain ⟨B, szB⟩ : ∃ B, B = w5.heap.size := ⟨_, rfl⟩
    refine RL.nil (RC.back ?_)
    refine RC.block ?_
    refine RC.loop (α := Nat × Ar × Value) (fun x => [(2, .pointer (some ⟨b_2, 0, none⟩)), (4, .pointer (some ⟨b_4, 0, none⟩)), (20, .slice pa l.length pc), (21, .int .i64 (l.length : Int)), (22, .int .i64 (x.1 : Int))]) (fun x w14 => (x.1 ≤ l.length ∧ AOk x.2.1 ∧ dropAll A l = dropAll x.2.1 (l.drop x.1) ∧ x.2.1.nodes.length = A.nodes.length ∧ x.2.1.free.length = A.free.length + x.1 ∧ (∀ y ∈ x.2.1.nodes, y.ok) ∧ (∀ y ∈ x.2.1.free, I64 y)) ∧ Has w14 b_2 [.slice (some ⟨b_C, 0, none⟩) A.nodes.length cc, x.2.2] 25 ∧ Has w14 b_4 [.slice none 0 0, .slice none 0 0] 25 ∧ Has w14 b_C ((x.2.1.nodes.map Node.cells).flatten ++ ex_C) 35 ∧ OwnZ B w14 3 1 x.2.2 (x.2.1.free.map fun x => [i6 x]) (.slice fa A.free.length A.free.length) (A.free.map fun x => [i6 x]) ∧ B ≤ w14.heap.size ∧ Sub w w14) (fun x => l.length - x.1) (0, A, .slice fa A.free.length A.free.length) (keep_of (by repeat (first | exact trivial | refine And.intro rfl ?_))) (⟨⟨Nat.zero_le _, hok, rfl, rfl, rfl, hA.nok, hA.fok⟩, hb_2, hb_4, hb_C, .inr ⟨rfl, rfl⟩, by omega, S⟩) (fun x w14 hJ => ?_)
    obtain ⟨i, Ai, u⟩ := x; obtain ⟨⟨hi, hoki, hd, hnl, hfl, hnk, hfk⟩, hb_2, hb_4, hb_C, ho, szB, S⟩ := hJ; simp only [] at hi hoki hd hnl hfl hnk hfk hb_2 hb_C ho
    refine RC.seq ?_
    refine RC.region rfl ?_
    refine RL.ev (.bin rfl rfl rfl) rfl rfl ?_
    refine RL.nil (RC.back ?_)
    refine RC.seq ?_
    refine RC.cond_dec rfl (fun h15 => ?_) (fun h15 => ?_)
    ·
      obtain ⟨p, hp⟩ := getSome (l := l) (i := i) (by omega)
      have hdc := dropAll_cons (A := Ai) hp
      have hpi := hli p (List.mem_of_getElem? hp)
      refine RC.skip (RC.back ?_)
      refine RC.seq ?_
      refine RC.block ?_
      refine RC.seq ?_
      refine RC.region rfl ?_
      refine RL.ev (.indexS sl23 rfl rfl (by omega) (hP.is (i := 0) (by simp only [List.length_map]; omega))) rfl rfl ?_
      refine RL.ev (.load1 sh3 rfl ((hP.sub S).one (enc := i6) (i := i) hp)) rfl rfl ?_
      refine RL.ev (.assign rfl) rfl rfl ?_
      refine RL.nil (RC.back ?_)
      refine RC.seq ?_
      refine RC.seq ?_
      refine RC.region rfl ?_
      refine RL.ev (.move rfl) rfl rfl ?_
      refine RL.ev (.bin rfl rfl rfl) rfl rfl ?_
      refine RL.ev (.move rfl) rfl rfl ?_
      refine RL.split 28 rfl (fun h16 => ?_) (fun h16 => ?_)
      ·
        refine RL.off rfl rfl ?_
        refine RL.off rfl rfl ?_
        refine RL.off rfl rfl ?_
        refine RL.off rfl rfl ?_
        refine RL.off rfl rfl ?_
        refine RL.ev (.pick_t rfl rfl) rfl rfl ?_
        refine RL.ev (.move rfl) rfl rfl ?_
        refine RL.off rfl rfl ?_
        refine RL.off rfl rfl ?_
        refine RL.off rfl rfl ?_
        refine RL.off rfl rfl ?_
        refine RL.off rfl rfl ?_
        refine RL.off rfl rfl ?_
        refine RL.off rfl rfl ?_
        refine RL.ev (.pick_t rfl rfl) rfl rfl ?_
        refine RL.nil (RC.back ?_)
        refine RC.cond_t rfl ?_
        refine RC.seq ?_
        refine RC.region rfl ?_
        refine RL.ev (.buildS ze25 pl25 rfl rfl) rfl rfl ?_
        refine RL.store sh25 rfl rfl rfl hb_4 (by exact Nat.le_of_ble_eq_true rfl) (by rfl) rfl (fun w17 z17 hb_4 a17 => ?_)
        have S := S.upd a17 ge_4
        have hb_2 := hb_2.upd a17 n_2__4
        have hb_C := hb_C.upd a17 nb_C_b_4
        have szB := Nat.le_trans szB a17.size
        have ho := ho.upd a17 (by omega)
        have hb_4 : Has w17 b_4 ([.slice none 0 0, .slice none 0 0]) _ := hb_4.now (by kernel_rfl)
        refine RL.ev (.assign rfl) rfl rfl ?_
        refine RL.nil (RC.back ?_)
        refine RC.done (rs := [.cell 4 25, .tmp 5]) (vs := [_, _]) rfl rfl ⟨⟨_, rfl, .inr ⟨[.slice none 0 0, .slice none 0 0], sh25, hb_4.row, rfl⟩⟩, rfl, trivial⟩ ?_
        -- end 2
        exact ⟨S, .inl ⟨.inr (by rw [hd, hdc, dropStep_no (by omega)]), rfl⟩⟩
      ·
        refine RL.ev (.move rfl) rfl rfl ?_
        refine RL.ev (.field0 fo25_0 rfl) rfl rfl ?_
        refine RL.ev (.load1 sh22 rfl (hb_2.cell rfl)) rfl rfl ?_
        refine RL.ev (.len sl22 rfl) rfl rfl ?_
        refine RL.ev (.bin rfl rfl rfl) rfl rfl ?_
        refine RL.ev (.pick_f rfl rfl) rfl rfl ?_
        refine RL.ev (.move rfl) rfl rfl ?_
        refine RL.split 35 rfl (fun h18 => ?_) (fun h18 => ?_)
        ·
          refine RL.off rfl rfl ?_
          refine RL.off rfl rfl ?_
          refine RL.off rfl rfl ?_
          refine RL.off rfl rfl ?_
          refine RL.off rfl rfl ?_
          refine RL.off rfl rfl ?_
          refine RL.off rfl rfl ?_
          refine RL.ev (.pick_t rfl rfl) rfl rfl ?_
          refine RL.nil (RC.back ?_)
          refine RC.cond_t rfl ?_
          refine RC.seq ?_
          refine RC.region rfl ?_
          refine RL.ev (.buildS ze25 pl25 rfl rfl) rfl rfl ?_
          refine RL.store sh25 rfl rfl rfl hb_4 (by exact Nat.le_of_ble_eq_true rfl) (by rfl) rfl (fun w19 z19 hb_4 a19 => ?_)
          have S := S.upd a19 ge_4
          have hb_2 := hb_2.upd a19 n_2__4
          have hb_C := hb_C.upd a19 nb_C_b_4
          have szB := Nat.le_trans szB a19.size
          have ho := ho.upd a19 (by omega)
          have hb_4 : Has w19 b_4 ([.slice none 0 0, .slice none 0 0]) _ := hb_4.now (by kernel_rfl)
          refine RL.ev (.assign rfl) rfl rfl ?_
          refine RL.nil (RC.back ?_)
          refine RC.done (rs := [.cell 4 25, .tmp 5]) (vs := [_, _]) rfl rfl ⟨⟨_, rfl, .inr ⟨[.slice none 0 0, .slice none 0 0], sh25, hb_4.row, rfl⟩⟩, rfl, trivial⟩ ?_
          -- end 3
          exact ⟨S, .inl ⟨.inr (by rw [hd, hdc, dropStep_no (by omega)]), rfl⟩⟩
        ·
          obtain ⟨y, hy⟩ := getSome (l := Ai.nodes) (i := p.toNat) (by omega)
          have hst0 := dropStep_at (A := Ai) (p := p) (by omega) hy
          have hwy := (well_iff y).1 (hoki.well y (List.mem_of_getElem? hy))
          refine RL.ev (.field0 fo25_0 rfl) rfl rfl ?_
          refine RL.ev (.load1 sh22 rfl (hb_2.cell rfl)) rfl rfl ?_
          refine RL.ev (.move rfl) rfl rfl ?_
          refine RL.ev (.indexO sl22 rfl rfl (by omega)) rfl rfl ?_
          refine RL.ev (.field0 fo35_0 rfl) rfl rfl ?_
          refine RL.ev (.load1 sh3 rfl (hb_C.rowCell (j := 0) node_len hy rfl (by omega))) rfl rfl ?_
          refine RL.ev (.bin rfl rfl rfl) rfl rfl ?_
          refine RL.ev (.pick_f rfl rfl) rfl rfl ?_
          refine RL.nil (RC.back ?_)
          refine RC.cond_dec rfl (fun h20 => ?_) (fun h20 => ?_)
          ·
            have hk0 := h20
            refine RC.seq ?_
            refine RC.region rfl ?_
            refine RL.ev (.buildS ze25 pl25 rfl rfl) rfl rfl ?_
            refine RL.store sh25 rfl rfl rfl hb_4 (by exact Nat.le_of_ble_eq_true rfl) (by rfl) rfl (fun w21 z21 hb_4 a21 => ?_)
            have S := S.upd a21 ge_4
            have hb_2 := hb_2.upd a21 n_2__4
            have hb_C := hb_C.upd a21 nb_C_b_4
            have szB := Nat.le_trans szB a21.size
            have ho := ho.upd a21 (by omega)
            have hb_4 : Has w21 b_4 ([.slice none 0 0, .slice none 0 0]) _ := hb_4.now (by kernel_rfl)
            refine RL.ev (.assign rfl) rfl rfl ?_
            refine RL.nil (RC.back ?_)
            refine RC.done (rs := [.cell 4 25, .tmp 5]) (vs := [_, _]) rfl rfl ⟨⟨_, rfl, .inr ⟨[.slice none 0 0, .slice none 0 0], sh25, hb_4.row, rfl⟩⟩, rfl, trivial⟩ ?_
            -- end 4
            exact ⟨S, .inl ⟨.inr (by rw [hd, hdc, hst0, if_pos hk0]), rfl⟩⟩
          ·
            rw [if_neg h20] at hst0
            have hst := hst0
            have hd2 : dropAll A l = _ := hd.trans (hdc.trans (by rw [hst]))
            have hnk2 : ∀ z ∈ Ai.nodes.set p.toNat (bareN ((y.gen + 1) % 1048577)), z.ok := (fun z hz => (List.mem_or_eq_of_mem_set hz).elim (hnk z) (fun e => e ▸ bareN_ok (by unfold I64; omega)))
            have hfk2 : ∀ z ∈ Ai.free ++ [p], I64 z := (fun z hz => (List.mem_append.1 hz).elim (hfk z) (fun h => by rw [List.mem_singleton] at h; exact h ▸ hpi))
            refine RC.skip (RC.back ?_)
            refine RC.seq ?_
            refine RC.drawD (fun k => k = b_C) [13] w14.heap.size 14 rfl rfl mxo (fun w22 s23 => ?_)
            have hNN : ∀ k, ((k = b_C) ∨ w14.heap.size ≤ k) → w.heap.size ≤ k := fun k e => e.elim (fun e => e ▸ ge_C) (fun e => Nat.le_trans S.size e)
            have ent_S := S.size
            have hN0 : ∀ k, w14.heap.size ≤ k → w.heap.size ≤ k := fun k e => Nat.le_trans S.size e
            have ltD_b_2 := hb_2.lt
            have ltD_b_4 := hb_4.lt
            have ltD_b_C := hb_C.lt
            have szD := Nat.le_refl w14.heap.size
            have S := S.trans s23
            have hb_2 := hb_2.sub s23
            have hb_4 := hb_4.sub s23
            have hb_C := hb_C.sub s23
            have szB := Nat.le_trans szB s23.size
            have ho := ho.sub s23
            have szD := Nat.le_trans szD s23.size
            refine RD.take 0 rfl (by kernel_rfl) (by kernel_rfl) (by kernel_rfl) (fun w' s' => .field0 fo25_0 rfl) rfl rfl ?_
            refine RD.take 1 rfl (by kernel_rfl) (by kernel_rfl) (by kernel_rfl) (fun w' s' => .load1 sh22 rfl ((hb_2.step s' (fun e => e.elim (fun e => nb_C_b_2.symm e) (fun e => Nat.not_le.2 ltD_b_2 e))).cell rfl)) rfl rfl ?_
            refine RD.take 2 rfl (by kernel_rfl) (by kernel_rfl) (by kernel_rfl) (fun w' s' => .move rfl) rfl rfl ?_
            refine RD.take 3 rfl (by kernel_rfl) (by kernel_rfl) (by kernel_rfl) (fun w' s' => .field0 fo25_0 rfl) rfl rfl ?_
            refine RD.take 4 rfl (by kernel_rfl) (by kernel_rfl) (by kernel_rfl) (fun w' s' => .load1 sh22 rfl ((hb_2.step s' (fun e => e.elim (fun e => nb_C_b_2.symm e) (fun e => Nat.not_le.2 ltD_b_2 e))).cell rfl)) rfl rfl ?_
            refine RD.take 5 rfl (by kernel_rfl) (by kernel_rfl) (by kernel_rfl) (fun w' s' => .move rfl) rfl rfl ?_
            refine RD.take 6 rfl (by kernel_rfl) (by kernel_rfl) (by kernel_rfl) (fun w' s' => .indexO sl22 rfl rfl (by omega)) rfl rfl ?_
            refine RD.take 7 rfl (by kernel_rfl) (by kernel_rfl) (by kernel_rfl) (fun w' s' => .field0 fo35_1 rfl) rfl rfl ?_
            refine RD.takeL 8 rfl (by kernel_rfl) (by kernel_rfl) (by kernel_rfl) (by kernel_rfl) (fun w' s' => .load1 sh3 rfl ((hb_C.step s' (fun e => Nat.not_le.2 ltD_b_C e)).rowCell (j := 1) node_len hy rfl (by omega))) rfl rfl ?_
            refine RD.take 9 rfl (by kernel_rfl) (by kernel_rfl) (by kernel_rfl) (fun w' s' => .as (.bin rfl rfl rfl) (wi64 (y := y.gen + 1) (by rfl) (by omega))) rfl rfl ?_
            refine RD.take 10 rfl (by kernel_rfl) (by kernel_rfl) (by kernel_rfl) (fun w' s' => .as (v' := .int .i64 ((y.gen + 1) % 1048577)) (.rem rfl rfl (by decide)) (by rw [tmodE (by omega)])) rfl rfl ?_
            refine RD.take 11 rfl (by kernel_rfl) (by kernel_rfl) (by kernel_rfl) (fun w' s' => .buildS ze35 pl35 rfl rfl) rfl rfl ?_
            refine RD.take 12 rfl (by kernel_rfl) (by kernel_rfl) (by kernel_rfl) (fun w' s' => .indexO sl22 rfl rfl (by omega)) rfl rfl ?_
            refine RD.all [13] (by kernel_rfl) rfl (RDs.cons rfl ?_ (RDs.nil))
            refine RL.store sh35 rfl rfl rfl hb_C (by rw [List.length_append, flat_len (sz := 16) _ (node_rows _), List.length_map]; show _ + 16 ≤ _; omega) (by rfl) rfl (fun w24 z24 hb_C a24 => ?_)
            have S := S.upd a24 ge_C
            have hb_2 := hb_2.upd a24 nb_C_b_2.symm
            have hb_4 := hb_4.upd a24 nb_C_b_4.symm
            have szB := Nat.le_trans szB a24.size
            have ho := ho.upd a24 (by omega)
            have szD := Nat.le_trans szD a24.size
            rw [Nat.zero_add] at hb_C
            have hb_C := Has.row_set (r := (bareN ((y.gen + 1) % 1048577)).cells) hb_C (node_rows _) (by rw [List.length_map]; omega) rfl
            rw [← List.map_set] at hb_C
            refine RD.backW rfl (a24.mono fun k _ e => e ▸ (.inl (rfl))) ?_
            refine RD.done (by kernel_rfl) (RC.back ?_)
            refine RC.region rfl ?_
            refine RL.ev (.field0 fo25_1 rfl) rfl rfl ?_
            refine RL.ev (.load1 sh23 rfl (hb_2.cell rfl)) rfl rfl ?_
            refine RL.ev (.move rfl) rfl rfl ?_
            refine RL.buildSlice1 sl23 _ ze3 rfl rfl rfl rfl rfl rfl rfl (fun b_61 w_61 e_61 z_61 hb_61 s_61 => ?_)
            have ge_61 := S.le e_61
            have n_2__61 := hb_2.ne e_61
            have n_4__61 := hb_4.ne e_61
            have n_C__61 := hb_C.ne e_61
            have S := S.trans s_61
            have hb_2 := hb_2.sub s_61
            have hb_4 := hb_4.sub s_61
            have hb_C := hb_C.sub s_61
            have szB := Nat.le_trans szB s_61.size
            have ho := ho.sub s_61
            have sz_62 := S.size
            have ltb_2_62 := hb_2.lt
            have ltb_4_62 := hb_4.lt
            have ltb_C_62 := hb_C.lt
            have ltb_61_62 := hb_61.lt
            refine RL.append2 (base := B) (rows := Ai.free.map fun x => [i6 x]) (news := [_]) sl23 ze3 rfl rfl rfl rfl (OwnZ.c (a := fa) ho (by rw [List.length_map]) (hFr.sub S) (fun r hr => by obtain ⟨z, _, rfl⟩ := List.mem_map.1 hr; rfl)) (Has.slOne hb_61) rfl (by intro r hr; rw [List.mem_singleton] at hr; subst hr; rfl) rfl (by (try simp only [List.length_map, List.length_nil, List.length_append, List.length_cons]); omega) (by (try simp only [List.length_map, List.length_nil, List.length_append, List.length_cons]); omega) (by omega) rfl rfl (fun v_62 w_62 hc_62 ho_62 ag_62 ob_62 => ?_)
            have S := S.agrN ag_62 (fun k e => Nat.le_trans (by omega) e.2)
            have hb_2 := hb_2.step ag_62 (fun e => absurd e.2 (by omega))
            have hb_4 := hb_4.step ag_62 (fun e => absurd e.2 (by omega))
            have hb_C := hb_C.step ag_62 (fun e => absurd e.2 (by omega))
            have szB := Nat.le_trans szB ag_62.size
            have hO := ho_62 (.inl (by simp))
            rw [show Ai.free.map (fun x => [i6 x]) ++ [_] = (Ai.free ++ [p]).map (fun x => [i6 x]) from by rw [List.map_append]; rfl] at hO
            obtain ⟨a_62, c_62, rfl, k_62⟩ := hO.form
            refine RL.ev (.field0 fo25_1 rfl) rfl rfl ?_
            refine RL.store sh23 rfl rfl rfl hb_2 (by exact Nat.le_of_ble_eq_true rfl) (by rfl) rfl (fun w25 z25 hb_2 a25 => ?_)
            have S := S.upd a25 ge_2
            have hb_4 := hb_4.upd a25 n_2__4.symm
            have hb_C := hb_C.upd a25 nb_C_b_2
            have szB := Nat.le_trans szB a25.size
            have hO := hO.upd a25 (by omega)
            have hb_2 : Has w25 b_2 ([.slice (some ⟨b_C, 0, none⟩) A.nodes.length cc, .slice a_62 ((Ai.free ++ [p]).map fun x => [i6 x]).length c_62]) _ := hb_2
            refine RL.nil (RC.back ?_)
            refine RC.region rfl ?_
            refine RL.ev (.as (.bin rfl rfl rfl) (wi64 (y := ((i + 1 : Nat) : Int)) (by omega) (by omega))) rfl rfl ?_
            refine RL.ev (.move rfl) rfl rfl ?_
            exact RL.nil (fun a ka => ⟨(i + 1, _, _), ⟨⟨by omega, dropStep_ok hoki hst, hd2, by simpa using hnl, by simp only [List.length_append, List.length_singleton]; omega, hnk2, hfk2⟩, hb_2, hb_4, hb_C, .inl hO, szB, S⟩, by omega, ka.keep (keep_of (by repeat (first | exact trivial | refine And.intro rfl ?_)))⟩)
    ·
      obtain rfl : i = l.length := (by omega)
      rw [List.drop_length] at hd
      obtain ⟨a_u, c_u, hu, k_u, hs_u⟩ := (OwnZ.c (a := fa) ho (by rw [List.length_map]) (hFr.sub S) (fun r hr => by obtain ⟨z, _, rfl⟩ := List.mem_map.1 hr; rfl)).form
      subst hu
      refine RC.exit rfl (RC.back ?_)
      refine RC.seq ?_
      refine RC.region rfl ?_
      refine RL.ev (.loadR ([.slice (some ⟨b_C, 0, none⟩) A.nodes.length cc, .slice a_u (Ai.free.map fun x => [i6 x]).length c_u]) sh25 rfl hb_2.row rfl) rfl rfl ?_
      refine RL.store sh25 rfl rfl rfl hb_4 (by exact Nat.le_of_ble_eq_true rfl) (by rfl) rfl (fun w26 z26 hb_4 a26 => ?_)
      have S := S.upd a26 ge_4
      have hb_2 := hb_2.upd a26 n_2__4
      have hb_C := hb_C.upd a26 nb_C_b_4
      have szB := Nat.le_trans szB a26.size
      have ho := ho.upd a26 (by omega)
      have hb_4 : Has w26 b_4 ([.slice (some ⟨b_C, 0, none⟩) A.nodes.length cc, .slice a_u (Ai.free.map fun x => [i6 x]).length c_u]) _ := hb_4.now (by kernel_rfl)
      refine RL.ev (.assign rfl) rfl rfl ?_
      refine RL.nil (RC.back ?_)
      refine RC.done (rs := [.cell 4 25, .tmp 5]) (vs := [_, _]) rfl rfl ⟨⟨_, rfl, .inr ⟨[.slice (some ⟨b_C, 0, none⟩) A.nodes.length cc, .slice a_u (Ai.free.map fun x => [i6 x]).length c_u], sh25, hb_4.row, rfl⟩⟩, rfl, trivial⟩ ?_
      -- end 5
      refine ⟨S, .inr ⟨hok, Ai, arV (some ⟨b_C, 0, none⟩) a_u cc c_u Ai, hd, ?_, _, _, _, _, rfl, by omega, by simpa using k_u, fun N hN hI W hW => ⟨Has.sl (hb_C.step hW (fun e => by have := hN _ e; omega)) (node_rows _), ?_, hnk, hfk⟩⟩⟩
      · show tup [Value.agg _, _] = _
        simp only [arV, List.length_map, hnl]
        rfl
      · rcases ho with ho | ⟨e1, e2⟩
        · exact (ho.imm (N := N) (fun k hk => by have := hN k hk; omega)) W hW
        · simp only [Value.slice.injEq] at e1
          rw [e2, e1.1]
          exact ((hI.sub S) W hW).free
end Go.Proofs.Ytfcmbojlflgpmaa
