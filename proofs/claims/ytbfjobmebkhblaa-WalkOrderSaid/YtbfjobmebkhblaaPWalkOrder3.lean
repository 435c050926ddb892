/-
  What the law WalkOrder leans on, part 3.
-/
import Derived.Test.YtbfjobmebkhblaaPWalkOrder2
set_option linter.unusedVariables false
set_option linter.unusedSimpArgs false
namespace Go.Proofs.Ytbfjobmebkhblaa
open Go Go.XL
/-- a table's keys and values, in the order of its nodes -/
def rowH (A : Ar) (r : Int) : List It := rdF A 12 r
theorem rowH_perm {A : Ar} {r : Int} {L : List It} (h : IsH A 10 r L) : (rowH A r).Perm L := rd_perm (k := 10) (f := 0) h
theorem c_pushAll {σ : Type} (l : Nat) (H : σ → Bool → (Nat → Prop) → World → Prop) (step : σ → It → σ × Bool) (cnt : σ → Nat) (N : Nat) (hc : ∀ s x, cnt (step s x).1 ≤ cnt s + 1) (hT : YT Try.prog l It.val It.ok cnt N H step) (A : Ar) (na fa : Option Addr) (nc fc : Nat) (hn : ∀ x ∈ A.nodes, x.ok) : ∀ (k : Nat) (r : Int) (L : List It), IsH A k r L → U64 r → PuT l H step cnt N A na fa nc fc r (rdF A (k + 2) r)
  | k, r, L, h, hr => by
    have zero : ∀ F, PuT l H step cnt N A na fa nc fc 0 (rdF A F 0) := fun F => by
      rw [rdF_no (getA_z A)]; exact c_pushNil l H step cnt N hc hT A na fa nc fc ()
    rcases row_cases L with rfl | ⟨x, rfl⟩ | h2
    · rw [isH_nil.1 h]; exact zero _
    · rw [rdF_leaf (isH_one.1 h)]; exact c_pushLeaf l H step cnt N hc hT A na fa nc fc r hr x (isH_one.1 h)
    · cases k with
      | zero =>
        obtain ⟨y, m, q1, q2, _, _, _, _, q6, q7, q8⟩ := clash_node ((isH_clash h2).1 h) h2
        have hyo := hn _ (getA_nok q1)
        rw [rdF_node q1 (by omega)]
        refine c_pushNode l H step cnt N hc hT A na fa nc fc r hr y q1 (by omega) _ fun z hz => ?_
        obtain ⟨j, hj⟩ := List.getElem?_of_mem hz
        have hj9 : j < 9 := lt_of_get hj
        by_cases hjm : j < m.length
        · obtain ⟨x, hx⟩ := getSome (l := m) hjm
          have h6 := q7 j x hx
          rw [kid_get hj] at h6
          rw [rdF_leaf h6]
          exact c_pushLeaf l H step cnt N hc hT A na fa nc fc z (hyo.kids z hz) x h6
        · have h6 := q8 j (by omega) hj9
          rw [kid_get hj] at h6
          rw [h6]; exact zero _
      | succ k =>
        obtain ⟨y, q1, q2, _, q4, q5⟩ := trie_zero h h2
        have hyo := hn _ (getA_nok q1)
        rw [show k + 1 + 2 = (k + 2) + 1 by omega, rdF_node q1 (by omega)]
        refine c_pushNode l H step cnt N hc hT A na fa nc fc r hr y q1 (by omega) _ fun z hz => ?_
        obtain ⟨j, hj⟩ := List.getElem?_of_mem hz
        have hj9 : j < 9 := lt_of_get hj
        by_cases hj4 : j < 4
        · have h6 := q4 j hj4
          rw [kid_get hj] at h6
          exact c_pushAll l H step cnt N hc hT A na fa nc fc hn k z _ h6 (hyo.kids z hz)
        · have h6 := q5 j (by omega) hj9
          rw [kid_get hj] at h6
          rw [h6]; exact zero _
theorem c_wleaves1 {σ : Type} (l : Nat) (H : σ → Bool → (Nat → Prop) → World → Prop) (step : σ → It → σ × Bool) (cnt : σ → Nat) (N : Nat) (hc : ∀ s x, cnt (step s x).1 ≤ cnt s + 1) (hT : YT Try.prog l It.val It.ok cnt N H step) (A : Ar) (na fa : Option Addr) (nc fc : Nat) (r : Int) (hr : U64 r) (L : List It) (hL : IsH A 10 r L) (s : σ) (C M : Nat → Prop) (b2 b3 : Nat) (w : World) (hN : cnt s + L.length ≤ N) (hA : Ft M (fun u => ArR u na fa A) w) (hMC : ∀ k, M k → ¬ C k) (hH : Ft C (H s true C) w)
    (h2 : Has w b2 [.slice na A.nodes.length nc, .slice fa A.free.length fc] 34) (h3 : Has w b3 [.int .u64 r] 36) :
    FC Try.prog 74 [.func (.yield l) #[] #[], .pointer (some ⟨b2, 0, none⟩), .pointer (some ⟨b3, 0, none⟩)] w (fun _ w' => ∃ C', Ft C' (H (pushF step s (rowH A r)).1 (pushF step s (rowH A r)).2 C') w' ∧ Agr C w w' ∧ Up C w C') := by
  have hlen := (rowH_perm hL).length_eq
  refine FC.intro Try.func74 rfl Try.ntmps74 rfl ?_
  refine RC.region rfl ?_
  refine RL.ev (.loadR ([.slice na A.nodes.length nc, .slice fa A.free.length fc]) sh34 rfl h2.row rfl) rfl rfl ?_
  refine RL.ev (.load1 sh36 rfl (h3.cell rfl)) rfl rfl ?_
  refine RL.ev (.move rfl) rfl rfl ?_
  refine RL.call rfl ok75 (c_pushAll l H step cnt N hc hT A na fa nc fc hA.now.nok 10 r L hL hr s C M w (by show cnt s + (rowH A r).length ≤ N; omega) hA hMC hH) rfl rfl ?_
  rintro _ w1 ⟨C1, rfl, hH1, ag, up⟩
  refine RL.nil ?_
  refine fun a ka => ⟨ka.defers, _, run_results (rs := []) (vs := []) ka rfl trivial, ?_⟩
  -- end 1
  exact ⟨C1, hH1, ag, up⟩
theorem c_wleaves (A : Ar) (na fa : Option Addr) (nc fc : Nat) (r : Int) (w : World) :
    FC Try.prog 49 [arV na fa nc fc A, .int .u64 r] w (fun v w' => ∃ b2 b3, v = .func (.func 74) #[] #[.pointer (some ⟨b2, 0, none⟩), .pointer (some ⟨b3, 0, none⟩)] ∧ Has w' b2 [.slice na A.nodes.length nc, .slice fa A.free.length fc] 34 ∧ Has w' b3 [.int .u64 r] 36 ∧ Sub w w') := by
  refine FC.intro Try.func49 rfl Try.ntmps49 rfl ?_
  have S := Sub.refl w
  refine RC.seq ?_
  refine RC.region rfl ?_
  refine RL.box rfl rfl rfl (fun b_2 w_2 e_2 z_2 hb_2 s_2 => ?_)
  have ge_2 := S.le e_2
  have S := S.trans s_2
  have hb_2 : Has w_2 b_2 ([.slice na A.nodes.length nc, .slice fa A.free.length fc]) _ := hb_2
  refine RL.box rfl rfl rfl (fun b_3 w_3 e_3 z_3 hb_3 s_3 => ?_)
  have ge_3 := S.le e_3
  have n_2__3 := hb_2.ne e_3
  have S := S.trans s_3
  have hb_2 := hb_2.sub s_3
  refine RL.ev (.assign rfl) rfl rfl ?_
  refine RL.nil (RC.back ?_)
  refine RC.seq ?_
  refine RC.region rfl ?_
  refine RL.ev (.func (xs := []) (ys := [_, _]) rfl rfl) rfl rfl ?_
  refine RL.ev (.assign rfl) rfl rfl ?_
  refine RL.nil (RC.back ?_)
  refine RC.done (rs := [.tmp 4]) (vs := [_]) rfl rfl ⟨rfl, trivial⟩ ?_
  -- end 1
  exact ⟨b_2, b_3, rfl, hb_2, hb_3, S⟩
/-- how the boxes stand between two rounds -/
def HCol (l : Nat) (rL : Loop) (b2 base : Nat) (rows : List It) (b : Bool) (C : Nat → Prop) (W : World) : Prop :=
  ∃ v, (Lp l (recB rL 0 b) W ∧ Has W b2 [v] 26 ∧ Ows base W 29 2 v (rows.map It.cells)) ∧ (∀ k, ob v = some k → k ≠ l ∧ k ≠ b2) ∧ ∀ k, C k ↔ (k = l ∨ k = b2 ∨ ob v = some k)
theorem HCol.ft {l : Nat} {rL : Loop} {b2 base : Nat} {rows : List It} {b : Bool} {C : Nat → Prop} {W : World} {v : Value} (hC : ∀ k, C k ↔ (k = l ∨ k = b2 ∨ ob v = some k))
    (h1 : Lp l (recB rL 0 b) W) (h2 : Has W b2 [v] 26) (h5 : Ows base W 29 2 v (rows.map It.cells)) (hob : ∀ k, ob v = some k → k ≠ l ∧ k ≠ b2) :
    Ft C (HCol l rL b2 base rows b C) W := by
  refine ⟨fun k hk => ?_, fun u a => ⟨v, ⟨h1.step a (fun hn => hn ((hC _).2 (.inl rfl))), h2.step a (fun hn => hn ((hC _).2 (.inr (.inl rfl)))), h5.step a (fun k hk hn => hn ((hC k).2 (.inr (.inr hk))))⟩, hob, hC⟩⟩
  rcases (hC k).1 hk with rfl | rfl | h
  · exact h1.lt
  · exact h2.lt
  · exact (h5.ge k h).2
end Go.Proofs.Ytbfjobmebkhblaa
set_option linter.unusedVariables false
set_option linter.unusedSimpArgs false
namespace Go.Proofs.Ytbfjobmebkhblaa
open Go Go.XL
section
variable {P : Program} {n : Cx} {F : List (Nat × Value)} {w : World} {p : Post}
/-- the end of a function that holds ranges, whose results lie in cells -/
theorem retMC {fn : Func} {D : Nat} {R : Value → World → Prop} {rs : List ResultVar} {vs : List Value} (hrs : fn.results = rs.toArray) (hp : p.ret = (Post.fnM P fn R).ret) (hD : Df D w) (hv : ∀ w', Agr (· = D) w w' → w'.heap.size = w.heap.size → resVs P F w' rs vs ∧ R (tup vs) w') (hM : n.marks = [markD D] := by rfl) : ∀ a, Knows n F a → p.ret a w := fun a k => by
  rw [hp]
  refine ⟨.inr ⟨D, k.defers.trans hM, hD⟩, ?_⟩
  rintro w' (⟨_, h⟩ | ⟨D', h, e⟩)
  · rw [k.defers.trans hM] at h; cases h
  · rw [k.defers.trans hM] at h
    obtain rfl : D = D' := by
      have := (List.cons.inj h).1
      simp only [markD, Deferred.mk.injEq, Target.collected.injEq] at this
      exact this.1
    subst e
    have h2 := hv (w.putObj D (.deferred none)) agr_put (by simp)
    exact ⟨_, run_results k hrs h2.1, h2.2⟩
theorem RC.doneMC {fn : Func} {D : Nat} {R : Value → World → Prop} {rs : List ResultVar} {vs : List Value} (hrs : fn.results = rs.toArray) (hp : p.ret = (Post.fnM P fn R).ret) (hD : Df D w) (hv : ∀ w', Agr (· = D) w w' → w'.heap.size = w.heap.size → resVs P F w' rs vs ∧ R (tup vs) w') (hM : n.marks = [markD D] := by rfl) : RC P n .ret F w p := RC.ret (retMC hrs hp hD hv hM)
end
/-- how the record stands, where the body may return: b = the loop goes on -/
def recT (r : Loop) (b : Bool) : Loop := { r with state := if b then .ready else .done, pending := if b then none else some .ret }
theorem recT_nb {r : Loop} {b : Bool} : (recT r b).state ≠ .busy := by cases b <;> simp [recT]
theorem recT_pe {r : Loop} {id : Nat} : (recT r true).pending = none ∨ (recT r true).pending = some (.exit id) := .inl rfl
def stFst (p : It → Bool) (s : Option It) (x : It) : Option It × Bool := if p x = true then (some x, false) else (s, true)
theorem push_fst (p : It → Bool) : ∀ l : List It, pushF (stFst p) none l = (l.find? p, (l.find? p).isNone)
  | [] => rfl
  | x :: l => by
    by_cases h : p x = true
    · rw [pushF_f (by rw [stFst, if_pos h]), List.find?_cons_of_pos h, stFst, if_pos h]; rfl
    · rw [pushF_t (by rw [stFst, if_neg h]), List.find?_cons_of_neg h, stFst, if_neg h, push_fst p l]
theorem stFst_cnt (p : It → Bool) (s : Option It) (x : It) : (fun _ : Option It => 0) (stFst p s x).1 ≤ (fun _ : Option It => 0) s + 1 := Nat.zero_le _
def itOf (s : Option It) : It := s.getD ⟨0, 0⟩
/-- how the boxes stand between two rounds -/
def HFst (l : Nat) (rL : Loop) (b5 b6 b7 : Nat) (g : FuncId) (cs : List Value) (MK : Nat → Prop) (K : World → Prop) (s : Option It) (b : Bool) (C : Nat → Prop) (W : World) : Prop :=
  (Lp l (recT rL b) W ∧ Has W b5 [.func (.func g) #[] cs.toArray] 83 ∧ Has W b6 (itOf s).cells 29 ∧ Has W b7 [.int .i64 0] 39 ∧ Ft MK K W) ∧ ∀ k, C k ↔ (k = l ∨ k = b6 ∨ k = b7) ∨ (k = b5 ∨ MK k)
theorem HFst.ft {l : Nat} {rL : Loop} {b5 b6 b7 : Nat} {g : FuncId} {cs : List Value} {MK : Nat → Prop} {K : World → Prop} {s : Option It} {b : Bool} {C : Nat → Prop} {W : World} (hC : ∀ k, C k ↔ (k = l ∨ k = b6 ∨ k = b7) ∨ (k = b5 ∨ MK k))
    (h1 : Lp l (recT rL b) W) (h5 : Has W b5 [.func (.func g) #[] cs.toArray] 83) (h6 : Has W b6 (itOf s).cells 29) (h7 : Has W b7 [.int .i64 0] 39) (hK : Ft MK K W) :
    Ft C (HFst l rL b5 b6 b7 g cs MK K s b C) W := by
  refine ⟨fun k hk => ?_, fun u a => ⟨⟨h1.step a (fun hn => hn ((hC _).2 (.inl (.inl rfl)))), h5.step a (fun hn => hn ((hC _).2 (.inr (.inl rfl)))), h6.step a (fun hn => hn ((hC _).2 (.inl (.inr (.inl rfl))))), h7.step a (fun hn => hn ((hC _).2 (.inl (.inr (.inr rfl))))), hK.step a (fun k hk hn => hn ((hC _).2 (.inr (.inr hk))))⟩, hC⟩⟩
  rcases (hC k).1 hk with (rfl | rfl | rfl) | (rfl | h)
  · exact h1.lt
  · exact h6.lt
  · exact h7.lt
  · exact h5.lt
  · exact hK.lt k h
theorem agrPin {C D MK : Nat → Prop} {K : World → Prop} {w w' : World} (a : Agr C w w') (hC : ∀ k, C k → D k ∨ MK k) (hpin : ∀ u u', K u → K u' → ∀ k, MK k → u'.heap[k]? = u.heap[k]?) (h : K w) (h' : K w') : Agr D w w' :=
  ⟨a.os, a.tape, a.output, a.size, fun k hk hn => by
    by_cases hm : MK k
    · exact hpin _ _ h h' k hm
    · exact a.block k hk (fun hc => (hC k hc).elim hn hm)⟩
theorem c_wfirst (A : Ar) (na fa : Option Addr) (nc fc : Nat) (hnc : A.nodes.length ≤ nc) (hfc : A.free.length ≤ fc) (r : Int) (hr : U64 r) (g : FuncId) (hg : calleeOK Try.prog g = true) (cs : List Value) (p : It → Bool) (M MK : Nat → Prop) (K : World → Prop) (w : World) (hA : Ft M (fun u => ArR u na fa A) w) (hK : Ft MK K w) (hMK : ∀ k, M k → ¬ MK k) (hpin : ∀ u u', K u → K u' → ∀ k, MK k → u'.heap[k]? = u.heap[k]?)
    (hp : ∀ (x : It) (u : World), x.ok → K u → FC Try.prog g ([x.val] ++ cs) u (Val (.bool (p x)) u)) :
    FC Try.prog 46 [arV na fa nc fc A, .int .u64 r, .func (.func g) #[] cs.toArray] w (fun v w' => Sub w w' ∧ ∃ x e, v = .tuple #[x.val, .int .i64 e] ∧ (¬ isTab A r → x = ⟨0, 0⟩ ∧ e = 1) ∧ (isTab A r → (∃ y, (rowH A r).find? p = some y ∧ x = y ∧ e = 0) ∨ ((rowH A r).find? p = none ∧ x = ⟨0, 0⟩ ∧ e = 3))) := by
  have hNd := hA.now.nodes
  have hFr := hA.now.free
  refine FC.introM Try.func46 rfl Try.ntmps46 rfl ?_
  have S := Sub.refl w
  refine RC.seq ?_
  refine RC.region rfl ?_
  refine RL.box rfl rfl rfl (fun b_3 w_3 e_3 z_3 hb_3 s_3 => ?_)
  have ge_3 := S.le e_3
  have d_hK_b_3 := hK.neNew e_3
  have d_hA_b_3 := hA.neNew e_3
  have S := S.trans s_3
  have hK := hK.sub s_3
  have hA := hA.sub s_3
  have hb_3 : Has w_3 b_3 ([.slice na A.nodes.length nc, .slice fa A.free.length fc]) _ := hb_3
  refine RL.box rfl rfl rfl (fun b_5 w_5 e_5 z_5 hb_5 s_5 => ?_)
  have ge_5 := S.le e_5
  have n_3__5 := hb_3.ne e_5
  have d_hK_b_5 := hK.neNew e_5
  have d_hA_b_5 := hA.neNew e_5
  have S := S.trans s_5
  have hK := hK.sub s_5
  have hA := hA.sub s_5
  have hb_3 := hb_3.sub s_5
  refine RL.alloc ze29 rfl rfl (fun b_6 w_6 e_6 z_6 hb_6 s_6 => ?_)
  have ge_6 := S.le e_6
  have n_3__6 := hb_3.ne e_6
  have n_5__6 := hb_5.ne e_6
  have d_hK_b_6 := hK.neNew e_6
  have d_hA_b_6 := hA.neNew e_6
  have S := S.trans s_6
  have hK := hK.sub s_6
  have hA := hA.sub s_6
  have hb_3 := hb_3.sub s_6
  have hb_5 := hb_5.sub s_6
  refine RL.alloc ze39 rfl rfl (fun b_7 w_7 e_7 z_7 hb_7 s_7 => ?_)
  have ge_7 := S.le e_7
  have n_3__7 := hb_3.ne e_7
  have n_5__7 := hb_5.ne e_7
  have n_6__7 := hb_6.ne e_7
  have d_hK_b_7 := hK.neNew e_7
  have d_hA_b_7 := hA.neNew e_7
  have S := S.trans s_7
  have hK := hK.sub s_7
  have hA := hA.sub s_7
  have hb_3 := hb_3.sub s_7
  have hb_5 := hb_5.sub s_7
  have hb_6 := hb_6.sub s_7
  refine RL.nil (RC.back ?_)
  refine RC.seq ?_
  refine RC.seq ?_
  refine RC.region rfl ?_
  refine RL.ev (.loadR ([.slice na A.nodes.length nc, .slice fa A.free.length fc]) sh34 rfl hb_3.row rfl) rfl rfl ?_
  refine RL.ev (.move rfl) rfl rfl ?_
  refine RL.call rfl ok42 (c_hRight A na fa nc fc hnc hfc r hr w_7 hA.now) rfl rfl ?_
  rintro _ w1 ⟨rfl, s2⟩
  have S := S.trans s2
  have hK := hK.sub s2
  have hA := hA.sub s2
  have hb_3 := hb_3.sub s2
  have hb_5 := hb_5.sub s2
  have hb_6 := hb_6.sub s2
  have hb_7 := hb_7.sub s2
  refine RL.ev (.not rfl) rfl rfl ?_
  refine RL.nil (RC.back ?_)
  refine RC.cond rfl (fun h3 => ?_) (fun h3 => ?_)
  ·
    have hno : ¬ isTab A r := (fun h => by have h2 := h3; rw [isTabB_yes h] at h2; cases h2)
    refine RC.seq ?_
    refine RC.region rfl ?_
    refine RL.ev (.buildS ze29 pl29 rfl rfl) rfl rfl ?_
    refine RL.store sh29 rfl rfl rfl hb_6 (by exact Nat.le_of_ble_eq_true rfl) (by rfl) rfl (fun w4 z4 hb_6 a4 => ?_)
    have S := S.upd a4 ge_6
    have hK := hK.updD a4 d_hK_b_6
    have hA := hA.updD a4 d_hA_b_6
    have hb_3 := hb_3.upd a4 n_3__6
    have hb_5 := hb_5.upd a4 n_5__6
    have hb_7 := hb_7.upd a4 n_6__7.symm
    have hb_6 : Has w4 b_6 ((⟨0, 0⟩ : It).cells) _ := hb_6.now (by kernel_rfl)
    refine RL.store sh39 rfl rfl rfl hb_7 (by exact Nat.le_of_ble_eq_true rfl) (by rfl) rfl (fun w5 z5 hb_7 a5 => ?_)
    have S := S.upd a5 ge_7
    have hK := hK.updD a5 d_hK_b_7
    have hA := hA.updD a5 d_hA_b_7
    have hb_3 := hb_3.upd a5 n_3__7
    have hb_5 := hb_5.upd a5 n_5__7
    have hb_6 := hb_6.upd a5 n_6__7
    refine RL.nil (RC.back ?_)
    refine RC.doneM0 (rs := [.cell 6 29, .cell 7 39]) (vs := [_, _]) rfl rfl ⟨⟨_, rfl, .inr ⟨(⟨0, 0⟩ : It).cells, sh29, hb_6.row, rfl⟩⟩, ⟨_, rfl, .inl ⟨_, sh39, (hb_7.cell rfl)⟩⟩, trivial⟩ ?_
    -- end 1
    exact ⟨S, ⟨0, 0⟩, 1, rfl, fun _ => ⟨rfl, rfl⟩, fun h => absurd h hno⟩
  ·
    have hyes : isTab A r := (isTabB_iff A r).1 (by simpa using h3)
    obtain ⟨_, L, hT, hap, hl⟩ := id hyes
    refine RC.skip (RC.back ?_)
    refine RC.seq ?_
    refine RC.seq ?_
    refine RC.region rfl ?_
    refine RL.ev (.loadR ([.slice na A.nodes.length nc, .slice fa A.free.length fc]) sh34 rfl hb_3.row rfl) rfl rfl ?_
    refine RL.ev (.move rfl) rfl rfl ?_
    refine RL.call rfl ok49 (c_wleaves A na fa nc fc r w1) rfl rfl ?_
    rintro _ w6 ⟨bA, bR, rfl, hbA, hbR, s7⟩
    have S := S.trans s7
    have hK := hK.sub s7
    have hA := hA.sub s7
    have hb_3 := hb_3.sub s7
    have hb_5 := hb_5.sub s7
    have hb_6 := hb_6.sub s7
    have hb_7 := hb_7.sub s7
    obtain ⟨E, hE⟩ : ∃ E, E = w6.heap.size := ⟨_, rfl⟩
    refine RL.nil (RC.back ?_)
    refine RC.range (cs := [_, _]) rfl ok74 ?_
    intro rL W1 hst hpe hps hasg hbd hk1 s1 z1 hL hD
    obtain ⟨b_D, eD⟩ : ∃ D, D = w6.heap.size := ⟨_, rfl⟩
    rw [← eD] at hk1 z1 hL hD ⊢
    obtain ⟨b_l, el⟩ : ∃ l, l = b_D + 1 := ⟨_, rfl⟩
    rw [← el] at hk1 hL ⊢
    have n_D_l : b_D ≠ b_l := by omega
    have ge_D : _ ≤ b_D := Nat.le_trans S.size (by omega)
    have ge_l : _ ≤ b_l := Nat.le_trans S.size (by omega)
    have d_hK_b_D : ∀ k, _ → k ≠ b_D := fun k hk e => by have := (hK.ge k hk).2; omega
    have d_hK_b_l : ∀ k, _ → k ≠ b_l := fun k hk e => by have := (hK.ge k hk).2; omega
    have d_hA_b_D : ∀ k, _ → k ≠ b_D := fun k hk e => by have := (hA.ge k hk).2; omega
    have d_hA_b_l : ∀ k, _ → k ≠ b_l := fun k hk e => by have := (hA.ge k hk).2; omega
    have nb_3_b_D : b_3 ≠ b_D := fun e => by have := hb_3.lt; omega
    have nb_3_b_l : b_3 ≠ b_l := fun e => by have := hb_3.lt; omega
    have nb_5_b_D : b_5 ≠ b_D := fun e => by have := hb_5.lt; omega
    have nb_5_b_l : b_5 ≠ b_l := fun e => by have := hb_5.lt; omega
    have nb_6_b_D : b_6 ≠ b_D := fun e => by have := hb_6.lt; omega
    have nb_6_b_l : b_6 ≠ b_l := fun e => by have := hb_6.lt; omega
    have nb_7_b_D : b_7 ≠ b_D := fun e => by have := hb_7.lt; omega
    have nb_7_b_l : b_7 ≠ b_l := fun e => by have := hb_7.lt; omega
    have nbA_b_D : bA ≠ b_D := fun e => by have := hbA.lt; omega
    have nbA_b_l : bA ≠ b_l := fun e => by have := hbA.lt; omega
    have nbR_b_D : bR ≠ b_D := fun e => by have := hbR.lt; omega
    have nbR_b_l : bR ≠ b_l := fun e => by have := hbR.lt; omega
    have S := S.trans s1
    have hK := hK.sub s1
    have hA := hA.sub s1
    have hb_3 := hb_3.sub s1
    have hb_5 := hb_5.sub s1
    have hb_6 := hb_6.sub s1
    have hb_7 := hb_7.sub s1
    have hbA := hbA.sub s1
    have hbR := hbR.sub s1
    rw [recB_0 (id := 0) hst hpe] at hL
    have hY : YT Try.prog b_l It.val It.ok (fun _ => 0) 200 (HFst b_l rL b_5 b_6 b_7 g cs MK K) (stFst p) := by
      intro s x C W hx hcn hH
      obtain ⟨⟨hL, hb_5, hb_6, hb_7, hK⟩, hC⟩ := hH.now
      have G : Agr (fun k => k = b_l ∨ k = b_6 ∨ k = b_7) W W := Agr.refl _ _
      refine FY.intro (m := 23) (F := upd _ (some 17) x.val) [0] hL rfl (by show 1 = rL.params.size; rw [hps]; rfl) (knows1 hps hk1 rfl) ?_
      show RC _ _ rL.assign _ _ _
      rw [hasg]
      refine RC.region rfl ?_
      refine RL.alloc ze29 rfl rfl (fun b_8 w_8 e_8 z_8 hb_8 s_8 => ?_)
      have n_l__8 := hL.ne e_8
      have n_5__8 := hb_5.ne e_8
      have n_6__8 := hb_6.ne e_8
      have n_7__8 := hb_7.ne e_8
      have d_hK_b_8 := hK.neNew e_8
      have hL := hL.sub s_8
      have hb_5 := hb_5.sub s_8
      have hb_6 := hb_6.sub s_8
      have hb_7 := hb_7.sub s_8
      have hK := hK.sub s_8
      have geG_8 := agLe G e_8
      have G := G.trans s_8.agr
      refine RL.store sh29 rfl rfl rfl hb_8 (by exact Nat.le_of_ble_eq_true rfl) (by rfl) rfl (fun w8 z8 hb_8 a8 => ?_)
      have hL := hL.upd a8 n_l__8
      have hb_5 := hb_5.upd a8 n_5__8
      have hb_6 := hb_6.upd a8 n_6__8
      have hb_7 := hb_7.upd a8 n_7__8
      have hK := hK.updD a8 d_hK_b_8
      have G := agNew G a8 geG_8
      have hb_8 : Has w8 b_8 (x.cells) _ := hb_8.now (by kernel_rfl)
      refine RL.nil (RC.begin hL ?_)
      intro w9 a9 z9 hL
      have hb_5 := hb_5.step a9 (fun e => nb_5_b_l e)
      have hb_6 := hb_6.step a9 (fun e => nb_6_b_l e)
      have hb_7 := hb_7.step a9 (fun e => nb_7_b_l e)
      have hK := hK.step a9 (fun k hk e => d_hK_b_l k hk e)
      have G := G.trans (a9.mono fun k _ e => .inl e)
      have hb_8 := hb_8.step a9 (fun e => n_l__8.symm e)
      show RC _ _ rL.body _ _ _
      rw [hbd]
      refine RC.block ?_
      refine RC.seq ?_
      refine RC.region rfl ?_
      refine RL.ev (.load1 sh83 rfl (hb_5.cell rfl)) rfl rfl ?_
      refine RL.ev (.loadR (x.cells) sh29 rfl hb_8.row rfl) rfl rfl ?_
      refine RL.callv rfl rfl (us := []) (cs := cs) hg (hp x w9 hx hK.now) rfl rfl ?_
      rintro _ w10 ⟨rfl, s11⟩
      have hb_5 := hb_5.sub s11
      have hb_6 := hb_6.sub s11
      have hb_7 := hb_7.sub s11
      have hK := hK.sub s11
      have G := G.trans s11.agr
      have hb_8 := hb_8.sub s11
      have hL := hL.sub s11
      refine RL.nil (RC.back ?_)
      refine RC.cond rfl (fun h12 => ?_) (fun h12 => ?_)
      ·
        have q1 := h12
        refine RC.seq ?_
        refine RC.region rfl ?_
        refine RL.ev (.loadR (x.cells) sh29 rfl hb_8.row rfl) rfl rfl ?_
        refine RL.store sh29 rfl rfl rfl hb_6 (by exact Nat.le_of_ble_eq_true rfl) (by rfl) rfl (fun w13 z13 hb_6 a13 => ?_)
        have hb_5 := hb_5.upd a13 n_5__6
        have hb_7 := hb_7.upd a13 n_6__7.symm
        have hK := hK.updD a13 d_hK_b_6
        have G := G.trans (a13.mono fun k _ e => .inr (.inl e))
        have hb_8 := hb_8.upd a13 n_6__8.symm
        have hL := hL.upd a13 nb_6_b_l.symm
        have hb_6 : Has w13 b_6 (x.cells) _ := hb_6.now (by kernel_rfl)
        refine RL.store sh39 rfl rfl rfl hb_7 (by exact Nat.le_of_ble_eq_true rfl) (by rfl) rfl (fun w14 z14 hb_7 a14 => ?_)
        have hb_5 := hb_5.upd a14 n_5__7
        have hb_6 := hb_6.upd a14 n_6__7
        have hK := hK.updD a14 d_hK_b_7
        have G := G.trans (a14.mono fun k _ e => .inr (.inr (e)))
        have hb_8 := hb_8.upd a14 n_7__8.symm
        have hL := hL.upd a14 nb_7_b_l.symm
        have hb_7 : Has w14 b_7 ([.int .i64 0]) _ := hb_7
        refine RL.nil (RC.back ?_)
        refine RC.ret (RC.endr (j := some .ret) hL ?_)
        intro w15 a15 z15 hL
        have hb_5 := hb_5.step a15 (fun e => nb_5_b_l e)
        have hb_6 := hb_6.step a15 (fun e => nb_6_b_l e)
        have hb_7 := hb_7.step a15 (fun e => nb_7_b_l e)
        have hK := hK.step a15 (fun k hk e => d_hK_b_l k hk e)
        have G := G.trans (a15.mono fun k _ e => .inl e)
        have hb_8 := hb_8.step a15 (fun e => n_l__8.symm e)
        -- round end 1
        rw [show stFst p s x = (some x, false) from if_pos q1]
        exact ⟨C, rfl, HFst.ft hC hL hb_5 hb_6 hb_7 hK, G.mono fun k _ e => (hC k).2 (.inl e), Up.refl _ _⟩
      ·
        have q1 := h12
        refine RC.skip (RC.endr (j := none) hL ?_)
        intro w16 a16 z16 hL
        have hb_5 := hb_5.step a16 (fun e => nb_5_b_l e)
        have hb_6 := hb_6.step a16 (fun e => nb_6_b_l e)
        have hb_7 := hb_7.step a16 (fun e => nb_7_b_l e)
        have hK := hK.step a16 (fun k hk e => d_hK_b_l k hk e)
        have G := G.trans (a16.mono fun k _ e => .inl e)
        have hb_8 := hb_8.step a16 (fun e => n_l__8.symm e)
        -- round end 2
        rw [show stFst p s x = (s, true) from by rw [stFst, if_neg (by simp [q1])]]
        exact ⟨C, rfl, HFst.ft hC hL hb_5 hb_6 hb_7 hK, G.mono fun k _ e => (hC k).2 (.inl e), Up.refl _ _⟩
    refine FC.mono (c_wleaves1 b_l _ _ _ _ (stFst_cnt p) hY A na fa nc fc r hr L hT none (fun k => (k = b_l ∨ k = b_6 ∨ k = b_7) ∨ (k = b_5 ∨ MK k)) M bA bR W1 (by show 0 + L.length ≤ 200; omega) hA (fun k hk e => by rcases e with (e | e | e) | (e | e); exact d_hA_b_l k hk e; exact d_hA_b_6 k hk e; exact d_hA_b_7 k hk e; exact d_hA_b_5 k hk e; exact hMK k hk e) (HFst.ft (fun _ => Iff.rfl) hL hb_5 hb_6 hb_7 hK) hbA hbR) ?_
    rintro _ W2 ⟨C2, hH, ag, up⟩
    have hK0 := hK.now
    rw [push_fst] at hH
    obtain ⟨⟨hL, hb_5, hb_6, hb_7, hK⟩, hC⟩ := hH.now
    have ag := agrPin (D := fun k => k = b_l ∨ k = b_6 ∨ k = b_7 ∨ k = b_5) ag (fun k e => by rcases e with (e | e | e) | (e | e); exact .inl (.inl e); exact .inl (.inr (.inl e)); exact .inl (.inr (.inr (.inl e))); exact .inl (.inr (.inr (.inr e))); exact .inr e) hpin hK0 hK.now
    have hDC : ¬ (b_D = b_l ∨ b_D = b_6 ∨ b_D = b_7 ∨ b_D = b_5) := (fun e => by rcases e with e | e | e | e <;> omega)
    have S := S.agrN ag (fun k e => by rcases e with e | e | e | e <;> omega)
    have hD := hD.step ag hDC
    obtain ⟨bb, hbb⟩ : ∃ bb, ((rowH A r).find? p).isNone = bb := ⟨_, rfl⟩
    rw [hbb] at hL 
    cases bb
    ·
      obtain ⟨y, hy⟩ : ∃ y, (rowH A r).find? p = some y := (by cases q : (rowH A r).find? p with | none => rw [q] at hbb; cases hbb | some y => exact ⟨y, rfl⟩)
      rw [hy] at hb_6
      have hb_6 : Has W2 b_6 y.cells 29 := hb_6
      refine ⟨_, hL, recT_nb, fun W3 a3 z3 => .inr ⟨rfl, ?_⟩⟩
      have S := S.agrN a3 (fun k e => e ▸ ge_l)
      have hb_6 := hb_6.step a3 (fun e => nb_6_b_l e)
      have hb_7 := hb_7.step a3 (fun e => nb_7_b_l e)
      have hD := hD.step a3 (fun e => n_D_l e)
      refine retMC (rs := [.cell 6 29, .cell 7 39]) (vs := [y.val, .int .i64 0]) rfl rfl hD (fun w17 a17 z17 => ?_)
      have S := S.agrN a17 (fun k e => e ▸ ge_D)
      have hb_6 := hb_6.step a17 (fun e => nb_6_b_D e)
      have hb_7 := hb_7.step a17 (fun e => nb_7_b_D e)
      refine ⟨⟨⟨_, rfl, .inr ⟨y.cells, sh29, hb_6.row, rfl⟩⟩, ⟨_, rfl, .inl ⟨_, sh39, (hb_7.cell rfl)⟩⟩, trivial⟩, ?_⟩
      -- end 2
      exact ⟨S, y, 0, rfl, fun h => absurd hyes h, fun _ => .inl ⟨y, hy, rfl, rfl⟩⟩
    ·
      have hn : (rowH A r).find? p = none := (by cases q : (rowH A r).find? p with | none => rfl | some y => rw [q] at hbb; cases hbb)
      refine ⟨_, hL, recT_nb, fun W3 a3 z3 => .inl ⟨recT_pe, RC.backM ?_⟩⟩
      have S := S.agrN a3 (fun k e => e ▸ ge_l)
      have hb_6 := hb_6.step a3 (fun e => nb_6_b_l e)
      have hb_7 := hb_7.step a3 (fun e => nb_7_b_l e)
      have hD := hD.step a3 (fun e => n_D_l e)
      refine RC.seq ?_
      refine RC.region rfl ?_
      refine RL.ev (.buildS ze29 pl29 rfl rfl) rfl rfl ?_
      refine RL.store sh29 rfl rfl rfl hb_6 (by exact Nat.le_of_ble_eq_true rfl) (by rfl) rfl (fun w18 z18 hb_6 a18 => ?_)
      have S := S.upd a18 ge_6
      have hb_7 := hb_7.upd a18 n_6__7.symm
      have hD := hD.upd a18 nb_6_b_D.symm
      have hb_6 : Has w18 b_6 ((⟨0, 0⟩ : It).cells) _ := hb_6.now (by kernel_rfl)
      refine RL.store sh39 rfl rfl rfl hb_7 (by exact Nat.le_of_ble_eq_true rfl) (by rfl) rfl (fun w19 z19 hb_7 a19 => ?_)
      have S := S.upd a19 ge_7
      have hb_6 := hb_6.upd a19 n_6__7
      have hD := hD.upd a19 nb_7_b_D.symm
      refine RL.nil (RC.back ?_)
      refine RC.doneMC (rs := [.cell 6 29, .cell 7 39]) (vs := [(⟨0, 0⟩ : It).val, .int .i64 3]) rfl rfl hD (fun w20 a20 z20 => ?_)
      have S := S.agrN a20 (fun k e => e ▸ ge_D)
      have hb_6 := hb_6.step a20 (fun e => nb_6_b_D e)
      have hb_7 := hb_7.step a20 (fun e => nb_7_b_D e)
      refine ⟨⟨⟨_, rfl, .inr ⟨(⟨0, 0⟩ : It).cells, sh29, hb_6.row, rfl⟩⟩, ⟨_, rfl, .inl ⟨_, sh39, (hb_7.cell rfl)⟩⟩, trivial⟩, ?_⟩
      -- end 3
      exact ⟨S, ⟨0, 0⟩, 3, rfl, fun h => absurd hyes h, fun _ => .inr ⟨hn, rfl, rfl⟩⟩
end Go.Proofs.Ytbfjobmebkhblaa
set_option linter.unusedVariables false
set_option linter.unusedSimpArgs false
namespace Go.Proofs.Ytbfjobmebkhblaa
open Go Go.XL
/-- which key comes ahead, with so many levels left -/
def lessF (a b : Int) : Nat → Bool
  | 0 => decide (a < b)
  | n + 1 => if dig a (9 - n) = dig b (9 - n) then lessF a b n else decide (dig a (9 - n) < dig b (9 - n))
def lessK (a b : Int) : Bool := lessF a b 10
theorem lessF_irrefl (a : Int) : ∀ n, lessF a a n = false
  | 0 => decide_eq_false (by omega)
  | n + 1 => by rw [lessF, if_pos rfl]; exact lessF_irrefl a n
theorem lessF_anti {a b : Int} (h : ¬ a = b) : ∀ n, lessF a b n = !lessF b a n
  | 0 => by
    unfold lessF
    by_cases q : a < b
    · rw [decide_eq_true q, decide_eq_false (by omega : ¬ b < a)]; rfl
    · rw [decide_eq_false q, decide_eq_true (by omega : b < a)]; rfl
  | n + 1 => by
    rw [lessF, lessF]
    by_cases q : dig a (9 - n) = dig b (9 - n)
    · rw [if_pos q, if_pos q.symm]; exact lessF_anti h n
    · rw [if_neg q, if_neg (fun e => q e.symm)]
      by_cases q2 : dig a (9 - n) < dig b (9 - n)
      · rw [decide_eq_true q2, decide_eq_false (by omega : ¬ dig b (9 - n) < dig a (9 - n))]; rfl
      · rw [decide_eq_false q2, decide_eq_true (by omega : dig b (9 - n) < dig a (9 - n))]; rfl
theorem lessF_trans {a b c : Int} : ∀ n, lessF a b n = true → lessF b c n = true → lessF a c n = true
  | 0, h1, h2 => by
    have h1 := of_decide_eq_true h1
    have h2 := of_decide_eq_true h2
    exact decide_eq_true (by omega)
  | n + 1, h1, h2 => by
    rw [lessF] at h1 h2 ⊢
    by_cases q1 : dig a (9 - n) = dig b (9 - n)
    · rw [if_pos q1] at h1
      by_cases q2 : dig b (9 - n) = dig c (9 - n)
      · rw [if_pos q2] at h2; rw [if_pos (q1.trans q2)]; exact lessF_trans n h1 h2
      · rw [if_neg q2] at h2; rw [if_neg (fun e => q2 (q1.symm.trans e)), q1]; exact h2
    · rw [if_neg q1] at h1
      have h1' := of_decide_eq_true h1
      by_cases q2 : dig b (9 - n) = dig c (9 - n)
      · rw [if_neg (fun e => q1 (e.trans q2.symm)), ← q2]; exact h1
      · rw [if_neg q2] at h2
        have h2' := of_decide_eq_true h2
        rw [if_neg (by omega)]
        exact decide_eq_true (by omega)
theorem lessK_irrefl (a : Int) : lessK a a = false := lessF_irrefl a 10
theorem lessK_anti {a b : Int} (h : ¬ a = b) : lessK a b = !lessK b a := lessF_anti h 10
theorem lessK_trans {a b c : Int} (h1 : lessK a b = true) (h2 : lessK b c = true) : lessK a c = true := lessF_trans 10 h1 h2
/-- a row in that order -/
def Wl (l : List It) : Prop := l.Pairwise fun x y => lessK x.k y.k = true
theorem Wl.ap {l : List It} (h : Wl l) : Ap l := List.Pairwise.imp (fun h e => by rw [e, lessK_irrefl] at h; cases h) h
theorem rem4 (n : Nat) : ((n : Nat) : Int).tmod 4 = ((n % 4 : Nat) : Int) := by rw [Int.tmod_eq_emod_of_nonneg (Int.natCast_nonneg _)]; rfl
theorem c_wLess (a b : Int) (w : World) : FC Try.prog 14 [.int .i64 a, .int .i64 b] w (Val (.bool (lessK a b)) w) := by
  have ha := hashOf_lt a
  have hb := hashOf_lt b
  refine FC.intro Try.func14 rfl Try.ntmps14 rfl ?_
  have S := Sub.refl w
  refine RC.seq ?_
  refine RC.region rfl ?_
  refine RL.ev (.assign rfl) rfl rfl ?_
  refine RL.nil (RC.back ?_)
  refine RC.seq ?_
  refine RC.region rfl ?_
  refine RL.ev (.move rfl) rfl rfl ?_
  refine RL.call rfl ok43 (c_hash a w) rfl rfl ?_
  rintro _ w1 ⟨rfl, s2⟩
  have S := S.trans s2
  refine RL.ev (.move rfl) rfl rfl ?_
  refine RL.call rfl ok43 (c_hash b w1) rfl rfl ?_
  rintro _ w3 ⟨rfl, s4⟩
  have S := S.trans s4
  refine RL.ev (.as (v' := .int .i64 ((hashOf a / 4 ^ 0 : Nat) : Int)) (.assign rfl) (by rw [Nat.pow_zero, Nat.div_one])) rfl rfl ?_
  refine RL.ev (.as (v' := .int .i64 ((hashOf b / 4 ^ 0 : Nat) : Int)) (.assign rfl) (by rw [Nat.pow_zero, Nat.div_one])) rfl rfl ?_
  refine RL.nil (RC.back ?_)
  refine RC.seq ?_
  refine RC.seq ?_
  refine RC.region rfl ?_
  refine RL.ev (.move rfl) rfl rfl ?_
  refine RL.nil (RC.back ?_)
  refine RC.block ?_
  refine RC.loop (α := Nat) (fun i => [(0, .int .i64 a), (1, .int .i64 b), (5, .int .i64 ((hashOf a / 4 ^ i : Nat) : Int)), (6, .int .i64 ((hashOf b / 4 ^ i : Nat) : Int)), (11, .int .i64 (i : Int))]) (fun i w5 => (i ≤ 10 ∧ lessK a b = lessF a b (10 - i)) ∧ Sub w w5) (fun i => 10 - i) 0 (keep_of (by repeat (first | exact trivial | refine And.intro rfl ?_))) (⟨⟨Nat.zero_le _, rfl⟩, S⟩) (fun i w5 hJ => ?_)
  obtain ⟨⟨hi, he⟩, S⟩ := hJ; have hpa : hashOf a / 4 ^ i ≤ hashOf a := Nat.div_le_self _ _; have hpb : hashOf b / 4 ^ i ≤ hashOf b := Nat.div_le_self _ _; have hqa : hashOf a / 4 ^ (i + 1) ≤ hashOf a := Nat.div_le_self _ _; have hqb : hashOf b / 4 ^ (i + 1) ≤ hashOf b := Nat.div_le_self _ _
  refine RC.seq ?_
  refine RC.region rfl ?_
  refine RL.ev (.bin rfl rfl rfl) rfl rfl ?_
  refine RL.nil (RC.back ?_)
  refine RC.seq ?_
  refine RC.cond_dec rfl (fun h6 => ?_) (fun h6 => ?_)
  ·
    have hs : 10 - i = (9 - i) + 1 := (by omega)
    have h9 : 9 - (9 - i) = i := (by omega)
    refine RC.skip (RC.back ?_)
    refine RC.seq ?_
    refine RC.block ?_
    refine RC.seq ?_
    refine RC.seq ?_
    refine RC.region rfl ?_
    refine RL.ev (.move rfl) rfl rfl ?_
    refine RL.ev (.as (v' := .int .i64 (dig a i : Nat)) (.rem rfl rfl (by decide)) (by rw [rem4]; rfl)) rfl rfl ?_
    refine RL.ev (.move rfl) rfl rfl ?_
    refine RL.ev (.as (v' := .int .i64 (dig b i : Nat)) (.rem rfl rfl (by decide)) (by rw [rem4]; rfl)) rfl rfl ?_
    refine RL.ev (.bin rfl rfl rfl) rfl rfl ?_
    refine RL.nil (RC.back ?_)
    refine RC.cond_dec rfl (fun h7 => ?_) (fun h7 => ?_)
    ·
      have q1 : ¬ dig a i = dig b i := (by have := h7; omega)
      refine RC.seq ?_
      refine RC.region rfl ?_
      refine RL.ev (.move rfl) rfl rfl ?_
      refine RL.ev (.as (v' := .int .i64 (dig a i : Nat)) (.rem rfl rfl (by decide)) (by rw [rem4]; rfl)) rfl rfl ?_
      refine RL.ev (.move rfl) rfl rfl ?_
      refine RL.ev (.as (v' := .int .i64 (dig b i : Nat)) (.rem rfl rfl (by decide)) (by rw [rem4]; rfl)) rfl rfl ?_
      refine RL.ev (.bin rfl rfl rfl) rfl rfl ?_
      refine RL.ev (.assign rfl) rfl rfl ?_
      refine RL.nil (RC.back ?_)
      refine RC.done (rs := [.tmp 4]) (vs := [_]) rfl rfl ⟨rfl, trivial⟩ ?_
      -- end 1
      exact ⟨congrArg Value.bool (by rw [he, hs, lessF, h9, if_neg q1]; exact decide_eq_decide.2 (by omega)), S⟩
    ·
      have q1 : dig a i = dig b i := (by have := h7; omega)
      refine RC.skip (RC.back ?_)
      refine RC.region rfl ?_
      refine RL.ev (.move rfl) rfl rfl ?_
      refine RL.ev (.as (v' := .int .i64 ((hashOf a / 4 ^ (i + 1) : Nat) : Int)) (.quo rfl rfl (by decide)) (by exact wi64 (div4 a i) ⟨Int.le_trans (by decide) (Int.natCast_nonneg _), Int.le_trans (Int.ofNat_le.2 hqa) (by omega)⟩)) rfl rfl ?_
      refine RL.ev (.move rfl) rfl rfl ?_
      refine RL.ev (.as (v' := .int .i64 ((hashOf b / 4 ^ (i + 1) : Nat) : Int)) (.quo rfl rfl (by decide)) (by exact wi64 (div4 b i) ⟨Int.le_trans (by decide) (Int.natCast_nonneg _), Int.le_trans (Int.ofNat_le.2 hqb) (by omega)⟩)) rfl rfl ?_
      refine RL.ev (.assign rfl) rfl rfl ?_
      refine RL.ev (.assign rfl) rfl rfl ?_
      refine RL.nil (RC.back ?_)
      refine RC.region rfl ?_
      refine RL.ev (.as (.bin rfl rfl rfl) (wi64 (y := ((i + 1 : Nat) : Int)) (by omega) (by omega))) rfl rfl ?_
      refine RL.ev (.move rfl) rfl rfl ?_
      exact RL.nil (fun a ka => ⟨i + 1, ⟨⟨by omega, by rw [he, hs, lessF, h9, if_pos q1]; congr 1; omega⟩, S⟩, by omega, ka.keep (keep_of (by repeat (first | exact trivial | refine And.intro rfl ?_)))⟩)
  ·
    obtain rfl : i = 10 := (by omega)
    refine RC.exit rfl (RC.back ?_)
    refine RC.seq ?_
    refine RC.region rfl ?_
    refine RL.ev (.move rfl) rfl rfl ?_
    refine RL.ev (.move rfl) rfl rfl ?_
    refine RL.ev (.bin rfl rfl rfl) rfl rfl ?_
    refine RL.ev (.assign rfl) rfl rfl ?_
    refine RL.nil (RC.back ?_)
    refine RC.done (rs := [.tmp 4]) (vs := [_]) rfl rfl ⟨rfl, trivial⟩ ?_
    -- end 2
    exact ⟨congrArg Value.bool (by rw [he]; rfl), S⟩
end Go.Proofs.Ytbfjobmebkhblaa
set_option linter.unusedVariables false
set_option linter.unusedSimpArgs false
namespace Go.Proofs.Ytbfjobmebkhblaa
open Go Go.XL
/-- what First and Next tell -/
def FndP (A : Ar) (r : Int) (o : Option It) (x : It) (e : Int) : Prop := (¬ isTab A r → x = ⟨0, 0⟩ ∧ e = 1) ∧ (isTab A r → (∃ y, o = some y ∧ x = y ∧ e = 0) ∨ (o = none ∧ x = ⟨0, 0⟩ ∧ e = 3))
theorem c_wFirst1 (x : It) (w : World) : FC Try.prog 50 ([x.val] ++ []) w (Val (.bool true) w) := by
  refine FC.intro Try.func50 rfl Try.ntmps50 rfl ?_
  have S := Sub.refl w
  refine RC.seq ?_
  refine RC.region rfl ?_
  refine RL.box rfl rfl rfl (fun b_1 w_1 e_1 z_1 hb_1 s_1 => ?_)
  have ge_1 := S.le e_1
  have S := S.trans s_1
  have hb_1 : Has w_1 b_1 (x.cells) _ := hb_1
  refine RL.ev (.assign rfl) rfl rfl ?_
  refine RL.nil (RC.back ?_)
  refine RC.seq ?_
  refine RC.region rfl ?_
  refine RL.ev (.assign rfl) rfl rfl ?_
  refine RL.nil (RC.back ?_)
  refine RC.done (rs := [.tmp 2]) (vs := [_]) rfl rfl ⟨rfl, trivial⟩ ?_
  -- end 1
  exact ⟨rfl, S⟩
theorem c_wFirst (A : Ar) (na fa : Option Addr) (nc fc : Nat) (hnc : A.nodes.length ≤ nc) (hfc : A.free.length ≤ fc) (r : Int) (hr : U64 r) (w : World) (hA : ArR w na fa A) :
    FC Try.prog 24 [arV na fa nc fc A, .int .u64 r] w (fun v w' => Sub w w' ∧ ∃ x e, v = .tuple #[x.val, .int .i64 e] ∧ FndP A r (rowH A r).head? x e) := by
  have hNd := hA.nodes
  have hFr := hA.free
  have hG : Ft (· < w.heap.size) (fun u => ArR u na fa A) w := Ft.of_sub fun u s => hA.sub s
  have hh : (rowH A r).find? (fun _ => true) = (rowH A r).head? := by cases rowH A r <;> rfl
  refine FC.intro Try.func24 rfl Try.ntmps24 rfl ?_
  have S := Sub.refl w
  refine RC.seq ?_
  refine RC.region rfl ?_
  refine RL.box rfl rfl rfl (fun b_2 w_2 e_2 z_2 hb_2 s_2 => ?_)
  have ge_2 := S.le e_2
  have S := S.trans s_2
  have hb_2 : Has w_2 b_2 ([.slice na A.nodes.length nc, .slice fa A.free.length fc]) _ := hb_2
  refine RL.alloc ze29 rfl rfl (fun b_4 w_4 e_4 z_4 hb_4 s_4 => ?_)
  have ge_4 := S.le e_4
  have n_2__4 := hb_2.ne e_4
  have S := S.trans s_4
  have hb_2 := hb_2.sub s_4
  refine RL.ev (.assign rfl) rfl rfl ?_
  refine RL.nil (RC.back ?_)
  refine RC.seq ?_
  refine RC.region rfl ?_
  refine RL.ev (.loadR ([.slice na A.nodes.length nc, .slice fa A.free.length fc]) sh34 rfl hb_2.row rfl) rfl rfl ?_
  refine RL.ev (.move rfl) rfl rfl ?_
  refine RL.call rfl ok46 (c_wfirst A na fa nc fc hnc hfc r hr 50 ok50 [] (fun x => true) (· < w.heap.size) (fun _ => False) (fun u => True) w_4 (hG.sub S) ⟨fun _ h => h.elim, fun _ _ => trivial⟩ (fun k hk e => e) (fun u u' _ _ k hk => hk.elim) (fun x u _ _ => c_wFirst1 x u)) rfl rfl ?_
  rintro _ w1 ⟨s2, x, e, rfl, hf1, hf2⟩
  have S := S.trans s2
  have hb_2 := hb_2.sub s2
  have hb_4 := hb_4.sub s2
  refine RL.ev (.extract rfl rfl) rfl rfl ?_
  refine RL.ev (.extract rfl rfl) rfl rfl ?_
  refine RL.store sh29 rfl rfl rfl hb_4 (by exact Nat.le_of_ble_eq_true rfl) (by rfl) rfl (fun w3 z3 hb_4 a3 => ?_)
  have S := S.upd a3 ge_4
  have hb_2 := hb_2.upd a3 n_2__4
  have hb_4 : Has w3 b_4 (x.cells) _ := hb_4.now (by kernel_rfl)
  refine RL.ev (.assign rfl) rfl rfl ?_
  refine RL.nil (RC.back ?_)
  refine RC.done (rs := [.cell 4 29, .tmp 5]) (vs := [_, _]) rfl rfl ⟨⟨_, rfl, .inr ⟨x.cells, sh29, hb_4.row, rfl⟩⟩, rfl, trivial⟩ ?_
  -- end 1
  rw [hh] at hf2
  exact ⟨S, x, e, rfl, hf1, hf2⟩
def one57 : List It := [⟨5, 7⟩]
theorem one57_ap : Ap one57 := List.pairwise_singleton _ _
theorem one57_fit : ∀ x ∈ one57, shL x.k one57 ≤ 9 := fun x _ => Nat.le_trans (shL_le _ _) (by decide)
theorem one57_ok : ∀ z ∈ one57, z.ok := fun z hz => by rw [List.mem_singleton.1 hz]; exact ⟨by unfold I64; decide, by unfold I64; decide⟩
theorem c_alive10 (w : World) : FC Try.prog 15 [] w (Val (.bool true) w) := by
  have hc : cnt 10 one57 = 1 := cnt_few (by decide)
  refine FC.intro Try.func15 rfl Try.ntmps15 rfl ?_
  have S := Sub.refl w
  refine RC.seq ?_
  refine RC.region rfl ?_
  refine RL.ev (.assign rfl) rfl rfl ?_
  refine RL.nil (RC.back ?_)
  refine RC.seq ?_
  refine RC.region rfl ?_
  refine RL.ev (.buildS ze29 pl29 rfl rfl) rfl rfl ?_
  refine RL.buildSlice1 sl26 _ ze29 rfl rfl rfl rfl rfl rfl rfl (fun b_7 w_7 e_7 z_7 hb_7 s_7 => ?_)
  have ge_7 := S.le e_7
  have S := S.trans s_7
  refine RL.call rfl ok18 (c_build9 9 one57 (some ⟨b_7, 0, none⟩) 1 1 rfl one57_ap one57_fit one57_ok (by omega) (by decide) (by decide) (by decide) w_7 (Has.sl0 (rows := one57.map It.cells) hb_7 it_rows)) rfl rfl ?_
  rintro _ w1 ⟨B, r, na, fa, nc, fc, rfl, hB, hnc, hfc, hi, s2⟩
  have hA := (hi (fun _ => False) (fun _ h => h.elim)).now
  have S := S.trans s2
  have hb_7 := hb_7.sub s2
  obtain ⟨W1, S1, hA⟩ : ∃ W, Sub W w1 ∧ ArR W na fa B := ⟨_, Sub.refl _, hA⟩
  have hT := hB.isH (by decide)
  have htab := tab_of (hB.ok (by decide) (by decide)) hT one57_ap (by decide)
  have hrow : rowH B r = one57 := List.perm_singleton.1 (rowH_perm hT)
  refine RL.ev (.move rfl) rfl rfl ?_
  refine RL.ev (.extract rfl rfl) rfl rfl ?_
  refine RL.ev (.extract rfl rfl) rfl rfl ?_
  refine RL.alloc ze34 rfl rfl (fun b_1 w_1 e_1 z_1 hb_1 s_1 => ?_)
  have ge_1 := S.le e_1
  have n_7__1 := hb_7.ne e_1
  have S := S.trans s_1
  have hb_7 := hb_7.sub s_1
  have geS1_1 := S1.le e_1
  have S1 := S1.trans s_1
  refine RL.store sh34 rfl rfl rfl hb_1 (by exact Nat.le_of_ble_eq_true rfl) (by rfl) rfl (fun w3 z3 hb_1 a3 => ?_)
  have S := S.upd a3 ge_1
  have hb_7 := hb_7.upd a3 n_7__1
  have S1 := S1.upd a3 geS1_1
  have hb_1 : Has w3 b_1 ([.slice na B.nodes.length nc, .slice fa B.free.length fc]) _ := hb_1.now (by kernel_rfl)
  refine RL.ev (.assign rfl) rfl rfl ?_
  refine RL.nil (RC.back ?_)
  refine RC.seq ?_
  refine RC.region rfl ?_
  refine RL.ev (.loadR ([.slice na B.nodes.length nc, .slice fa B.free.length fc]) sh34 rfl hb_1.row rfl) rfl rfl ?_
  refine RL.ev (.move rfl) rfl rfl ?_
  refine RL.call rfl ok24 (c_wFirst B na fa nc fc hnc hfc r hB.u w3 (hA.sub S1)) rfl rfl ?_
  rintro _ w4 ⟨s5, x, e, rfl, hf⟩
  have S := S.trans s5
  have hb_7 := hb_7.sub s5
  have S1 := S1.trans s5
  have hb_1 := hb_1.sub s5
  obtain ⟨y, hy, hxy, he⟩ := (hf.2 htab).resolve_right (fun h => by rw [hrow] at h; cases h.1)
  have hx : x = ⟨5, 7⟩ := (by rw [hxy]; rw [hrow] at hy; exact (Option.some.inj hy).symm)
  subst hx
  refine RL.ev (.move rfl) rfl rfl ?_
  refine RL.ev (.extract rfl rfl) rfl rfl ?_
  refine RL.ev (.extract rfl rfl) rfl rfl ?_
  refine RL.alloc ze29 rfl rfl (fun b_3 w_3 e_3 z_3 hb_3 s_3 => ?_)
  have ge_3 := S.le e_3
  have n_7__3 := hb_7.ne e_3
  have n_1__3 := hb_1.ne e_3
  have S := S.trans s_3
  have hb_7 := hb_7.sub s_3
  have geS1_3 := S1.le e_3
  have S1 := S1.trans s_3
  have hb_1 := hb_1.sub s_3
  refine RL.store sh29 rfl rfl rfl hb_3 (by exact Nat.le_of_ble_eq_true rfl) (by rfl) rfl (fun w6 z6 hb_3 a6 => ?_)
  have S := S.upd a6 ge_3
  have hb_7 := hb_7.upd a6 n_7__3
  have S1 := S1.upd a6 geS1_3
  have hb_1 := hb_1.upd a6 n_1__3
  have hb_3 : Has w6 b_3 ((⟨5, 7⟩ : It).cells) _ := hb_3.now (by kernel_rfl)
  refine RL.ev (.assign rfl) rfl rfl ?_
  refine RL.nil (RC.back ?_)
  refine RC.seq ?_
  refine RC.region rfl ?_
  refine RL.ev (.move rfl) rfl rfl ?_
  refine RL.ev (.as (v' := .bool true) (.bin rfl rfl rfl) (congrArg Value.bool (decide_eq_true (he)))) rfl rfl ?_
  refine RL.ev (.move rfl) rfl rfl ?_
  refine RL.ev (.loadR ((⟨5, 7⟩ : It).cells) sh29 rfl hb_3.row rfl) rfl rfl ?_
  refine RL.ev (.buildS ze29 pl29 rfl rfl) rfl rfl ?_
  refine RL.ev (.as (v' := .bool true) (.eqS (xs := (⟨5, 7⟩ : It).cells) (ys := (⟨5, 7⟩ : It).cells) fk29 eg29 sh29 rfl rfl rfl rfl rfl) (congrArg Value.bool (rfl))) rfl rfl ?_
  refine RL.ev (.pick_t rfl rfl) rfl rfl ?_
  refine RL.ev (.assign rfl) rfl rfl ?_
  refine RL.nil (RC.back ?_)
  refine RC.done (rs := [.tmp 0]) (vs := [_]) rfl rfl ⟨rfl, trivial⟩ ?_
  -- end 1
  exact ⟨rfl, S⟩
end Go.Proofs.Ytbfjobmebkhblaa
set_option linter.unusedVariables false
set_option linter.unusedSimpArgs false
namespace Go.Proofs.Ytbfjobmebkhblaa
open Go Go.XL
theorem law_WalkOrder (a0 : Int) (w0 : (Lit.int .i64 a0).wf = true) (a1 : Int) (w1 : (Lit.int .i64 a1).wf = true) (a2 : Int) (w2 : (Lit.int .i64 a2).wf = true) (w : World) : FC Try.prog 3 [.int .i64 a0, .int .i64 a1, .int .i64 a2] w (Val (.bool true) w) := by
  refine FC.intro Try.func3 rfl Try.ntmps3 rfl ?_
  have S := Sub.refl w
  refine RC.seq ?_
  refine RC.region rfl ?_
  refine RL.ev (.assign rfl) rfl rfl ?_
  refine RL.nil (RC.back ?_)
  refine RC.seq ?_
  refine RC.seq ?_
  refine RC.region rfl ?_
  refine RL.ev (.move rfl) rfl rfl ?_
  refine RL.ev (.move rfl) rfl rfl ?_
  refine RL.call rfl ok14 (c_wLess a0 a0 w) rfl rfl ?_
  rintro _ w1 ⟨rfl, s2⟩
  have S := S.trans s2
  refine RL.ev (.move rfl) rfl rfl ?_
  refine RL.splitB 10 rfl (fun h3 => ?_) (fun h3 => ?_)
  ·
    exact absurd h3 (by rw [lessK_irrefl]; decide)
  ·
    refine RL.ev (.move rfl) rfl rfl ?_
    refine RL.ev (.move rfl) rfl rfl ?_
    refine RL.ev (.bin rfl rfl rfl) rfl rfl ?_
    refine RL.ev (.move rfl) rfl rfl ?_
    refine RL.split 14 rfl (fun h4 => ?_) (fun h4 => ?_)
    ·
      have q1 : ¬ a0 = a1 := h4
      refine RL.ev (.move rfl) rfl rfl ?_
      refine RL.ev (.move rfl) rfl rfl ?_
      refine RL.call rfl ok14 (c_wLess a0 a1 w1) rfl rfl ?_
      rintro _ w5 ⟨rfl, s6⟩
      have S := S.trans s6
      refine RL.ev (.move rfl) rfl rfl ?_
      refine RL.ev (.move rfl) rfl rfl ?_
      refine RL.call rfl ok14 (c_wLess a1 a0 w5) rfl rfl ?_
      rintro _ w7 ⟨rfl, s8⟩
      have S := S.trans s8
      refine RL.ev (.as (v' := .bool false) (.eqB bo4 rfl rfl) (congrArg Value.bool (by rw [lessK_anti q1]; cases lessK a1 a0 <;> rfl))) rfl rfl ?_
      refine RL.ev (.pick_t rfl rfl) rfl rfl ?_
      refine RL.ev (.pick_f rfl rfl) rfl rfl ?_
      refine RL.ev (.move rfl) rfl rfl ?_
      refine RL.call rfl ok15 (c_alive10 w7) rfl rfl ?_
      rintro _ w9 ⟨rfl, s10⟩
      have S := S.trans s10
      refine RL.ev (.not rfl) rfl rfl ?_
      refine RL.ev (.pick_f rfl rfl) rfl rfl ?_
      refine RL.nil (RC.back ?_)
      refine RC.cond_f rfl ?_
      refine RC.skip (RC.back ?_)
      refine RC.seq ?_
      refine RC.region rfl ?_
      refine RL.ev (.move rfl) rfl rfl ?_
      refine RL.ev (.move rfl) rfl rfl ?_
      refine RL.call rfl ok14 (c_wLess a0 a1 w9) rfl rfl ?_
      rintro _ w11 ⟨rfl, s12⟩
      have S := S.trans s12
      refine RL.ev (.not rfl) rfl rfl ?_
      refine RL.ev (.move rfl) rfl rfl ?_
      refine RL.splitB 32 rfl (fun h13 => ?_) (fun h13 => ?_)
      ·
        have q3 := h13
        refine RL.off rfl rfl ?_
        refine RL.off rfl rfl ?_
        refine RL.off rfl rfl ?_
        refine RL.off rfl rfl ?_
        refine RL.ev (.pick_t rfl rfl) rfl rfl ?_
        refine RL.ev (.move rfl) rfl rfl ?_
        refine RL.off rfl rfl ?_
        refine RL.off rfl rfl ?_
        refine RL.off rfl rfl ?_
        refine RL.ev (.pick_t rfl rfl) rfl rfl ?_
        refine RL.ev (.assign rfl) rfl rfl ?_
        refine RL.nil (RC.back ?_)
        refine RC.done (rs := [.tmp 6]) (vs := [_]) rfl rfl ⟨rfl, trivial⟩ ?_
        -- end 1
        exact ⟨rfl, S⟩
      ·
        have q3 : lessK a0 a1 = true := (by have := h13; simpa using this)
        refine RL.ev (.move rfl) rfl rfl ?_
        refine RL.ev (.move rfl) rfl rfl ?_
        refine RL.call rfl ok14 (c_wLess a1 a2 w11) rfl rfl ?_
        rintro _ w14 ⟨rfl, s15⟩
        have S := S.trans s15
        refine RL.ev (.not rfl) rfl rfl ?_
        refine RL.ev (.pick_f rfl rfl) rfl rfl ?_
        refine RL.ev (.move rfl) rfl rfl ?_
        refine RL.splitB 38 rfl (fun h16 => ?_) (fun h16 => ?_)
        ·
          have q4 := h16
          refine RL.off rfl rfl ?_
          refine RL.off rfl rfl ?_
          refine RL.off rfl rfl ?_
          refine RL.ev (.pick_t rfl rfl) rfl rfl ?_
          refine RL.ev (.assign rfl) rfl rfl ?_
          refine RL.nil (RC.back ?_)
          refine RC.done (rs := [.tmp 6]) (vs := [_]) rfl rfl ⟨rfl, trivial⟩ ?_
          -- end 2
          exact ⟨rfl, S⟩
        ·
          have q4 : lessK a1 a2 = true := (by have := h16; simpa using this)
          refine RL.ev (.move rfl) rfl rfl ?_
          refine RL.ev (.move rfl) rfl rfl ?_
          refine RL.call rfl ok14 (c_wLess a0 a2 w14) rfl rfl ?_
          rintro _ w17 ⟨rfl, s18⟩
          have S := S.trans s18
          refine RL.ev (.pick_f rfl rfl) rfl rfl ?_
          refine RL.ev (.assign rfl) rfl rfl ?_
          refine RL.nil (RC.back ?_)
          refine RC.done (rs := [.tmp 6]) (vs := [_]) rfl rfl ⟨rfl, trivial⟩ ?_
          -- end 3
          exact ⟨congrArg Value.bool (lessK_trans q3 q4), S⟩
    ·
      refine RL.off rfl rfl ?_
      refine RL.off rfl rfl ?_
      refine RL.off rfl rfl ?_
      refine RL.off rfl rfl ?_
      refine RL.off rfl rfl ?_
      refine RL.off rfl rfl ?_
      refine RL.off rfl rfl ?_
      refine RL.ev (.pick_f rfl rfl) rfl rfl ?_
      refine RL.ev (.pick_f rfl rfl) rfl rfl ?_
      refine RL.ev (.move rfl) rfl rfl ?_
      refine RL.call rfl ok15 (c_alive10 w1) rfl rfl ?_
      rintro _ w19 ⟨rfl, s20⟩
      have S := S.trans s20
      refine RL.ev (.not rfl) rfl rfl ?_
      refine RL.ev (.pick_f rfl rfl) rfl rfl ?_
      refine RL.nil (RC.back ?_)
      refine RC.cond_f rfl ?_
      refine RC.skip (RC.back ?_)
      refine RC.seq ?_
      refine RC.region rfl ?_
      refine RL.ev (.move rfl) rfl rfl ?_
      refine RL.ev (.move rfl) rfl rfl ?_
      refine RL.call rfl ok14 (c_wLess a0 a1 w19) rfl rfl ?_
      rintro _ w21 ⟨rfl, s22⟩
      have S := S.trans s22
      refine RL.ev (.not rfl) rfl rfl ?_
      refine RL.ev (.move rfl) rfl rfl ?_
      refine RL.splitB 32 rfl (fun h23 => ?_) (fun h23 => ?_)
      ·
        have q3 := h23
        refine RL.off rfl rfl ?_
        refine RL.off rfl rfl ?_
        refine RL.off rfl rfl ?_
        refine RL.off rfl rfl ?_
        refine RL.ev (.pick_t rfl rfl) rfl rfl ?_
        refine RL.ev (.move rfl) rfl rfl ?_
        refine RL.off rfl rfl ?_
        refine RL.off rfl rfl ?_
        refine RL.off rfl rfl ?_
        refine RL.ev (.pick_t rfl rfl) rfl rfl ?_
        refine RL.ev (.assign rfl) rfl rfl ?_
        refine RL.nil (RC.back ?_)
        refine RC.done (rs := [.tmp 6]) (vs := [_]) rfl rfl ⟨rfl, trivial⟩ ?_
        -- end 4
        exact ⟨rfl, S⟩
      ·
        have q3 : lessK a0 a1 = true := (by have := h23; simpa using this)
        refine RL.ev (.move rfl) rfl rfl ?_
        refine RL.ev (.move rfl) rfl rfl ?_
        refine RL.call rfl ok14 (c_wLess a1 a2 w21) rfl rfl ?_
        rintro _ w24 ⟨rfl, s25⟩
        have S := S.trans s25
        refine RL.ev (.not rfl) rfl rfl ?_
        refine RL.ev (.pick_f rfl rfl) rfl rfl ?_
        refine RL.ev (.move rfl) rfl rfl ?_
        refine RL.splitB 38 rfl (fun h26 => ?_) (fun h26 => ?_)
        ·
          have q4 := h26
          refine RL.off rfl rfl ?_
          refine RL.off rfl rfl ?_
          refine RL.off rfl rfl ?_
          refine RL.ev (.pick_t rfl rfl) rfl rfl ?_
          refine RL.ev (.assign rfl) rfl rfl ?_
          refine RL.nil (RC.back ?_)
          refine RC.done (rs := [.tmp 6]) (vs := [_]) rfl rfl ⟨rfl, trivial⟩ ?_
          -- end 5
          exact ⟨rfl, S⟩
        ·
          have q4 : lessK a1 a2 = true := (by have := h26; simpa using this)
          refine RL.ev (.move rfl) rfl rfl ?_
          refine RL.ev (.move rfl) rfl rfl ?_
          refine RL.call rfl ok14 (c_wLess a0 a2 w24) rfl rfl ?_
          rintro _ w27 ⟨rfl, s28⟩
          have S := S.trans s28
          refine RL.ev (.pick_f rfl rfl) rfl rfl ?_
          refine RL.ev (.assign rfl) rfl rfl ?_
          refine RL.nil (RC.back ?_)
          refine RC.done (rs := [.tmp 6]) (vs := [_]) rfl rfl ⟨rfl, trivial⟩ ?_
          -- end 6
          exact ⟨congrArg Value.bool (lessK_trans q3 q4), S⟩
end Go.Proofs.Ytbfjobmebkhblaa
