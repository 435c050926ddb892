/-
  The package span, walked: a row gone over by a function.
-/
import Derived.Test.YtdmaogopibljoaaRange
import Derived.Test.YtdmaogopibljoaaOrderLaws
set_option linter.unusedVariables false
set_option linter.unusedSimpArgs false
namespace Go.Proofs.Ytdmaogopibljoaa
open Go Go.XL

theorem c_push {σ : Type} (l : Nat) (H : σ → Bool → (Nat → Prop) → World → Prop) (step : σ → It → σ × Bool) (cnt : σ → Nat) (N : Nat) (hc : ∀ s x, cnt (step s x).1 ≤ cnt s + 1) (hT : YT Try.prog l It.val It.ok cnt N H step)
    (A : Ar) (na fa : Option Addr) (nc fc : Nat) (r : Int) (L : List It) (hL : IsT A r L) : ∀ (s : σ) (C M : Nat → Prop) (w : World), U64 r → cnt s + L.length ≤ N → Ft M (fun u => ArR u na fa A) w → (∀ k, M k → ¬ C k) → Ft C (H s true C) w →
    FC Try.prog 30 [arV na fa nc fc A, .int .u64 r, .func (.yield l) #[] #[]] w (fun v w' => ∃ C', v = .bool (pushF step s L).2 ∧ Ft C' (H (pushF step s L).1 (pushF step s L).2 C') w' ∧ Agr C w w' ∧ Up C w C') := by
  induction hL with
  | nil =>
    intro s C M w hr hN hA hMC hH
    refine FC.introY Try.func30 rfl Try.ntmps30 rfl ?_
    have G : Agr C w w := Agr.refl _ _
    refine RC.seq ?_
    refine RC.region rfl ?_
    refine RL.box rfl rfl rfl (fun b_3 w_3 e_3 z_3 hb_3 s_3 => ?_)
    have d_hH_b_3 := hH.neNew e_3
    have geG_3 := agLe G e_3
    have G := G.trans s_3.agr
    have hH := hH.sub s_3
    have hb_3 : Has w_3 b_3 ([.slice na A.nodes.length nc, .slice fa A.free.length fc]) _ := hb_3
    refine RL.ev (.assign rfl) rfl rfl ?_
    refine RL.nil (RC.back ?_)
    refine RC.seq ?_
    refine RC.seq ?_
    refine RC.region rfl ?_
    refine RL.ev (.move rfl) rfl rfl ?_
    refine RL.ev (.bin rfl rfl rfl) rfl rfl ?_
    refine RL.nil (RC.back ?_)
    refine RC.cond_dec rfl (fun h1 => ?_) (fun h1 => ?_)
    ·
      refine RC.seq ?_
      refine RC.region rfl ?_
      refine RL.ev (.assign rfl) rfl rfl ?_
      refine RL.nil (RC.back ?_)
      refine RC.done (rs := [.tmp 6]) (vs := [_]) rfl rfl ⟨rfl, trivial⟩ ?_
      -- end 1
      exact ⟨C, rfl, hH, G, Up.refl _ _⟩
    ·
      exact absurd rfl h1
  | @node r g a b it L R h1 h2 h3 h4 h5 ih1 ih2 =>
    intro s C M w hr hN hA hMC hH
    obtain ⟨x, hx, hxi, hxa, hxb⟩ : ∃ x, getA A r = some x ∧ (⟨x.n, x.v⟩ : It) = it ∧ x.k0 = a ∧ x.k1 = b := ⟨_, h1, rfl, rfl, rfl⟩
    have hxo := hA.now.nok x (getA_nok hx)
    have hr0 : ¬ r = 0 := fun e => by rw [e, getA_0] at hx; cases hx
    have hCw : ∀ k, C k → k < w.heap.size := hH.lt
    clear h1
    rw [List.length_append, List.length_cons] at hN
    have hN1 := pushF_cnt hc L s
    have hN2 := hc (pushF step s L).1 it
    subst hxi hxa hxb
    refine FC.introY Try.func30 rfl Try.ntmps30 rfl ?_
    have G : Agr C w w := Agr.refl _ _
    refine RC.seq ?_
    refine RC.region rfl ?_
    refine RL.box rfl rfl rfl (fun b_3 w_3 e_3 z_3 hb_3 s_3 => ?_)
    have d_hA_b_3 := hA.neNew e_3
    have d_hH_b_3 := hH.neNew e_3
    have geG_3 := agLe G e_3
    have G := G.trans s_3.agr
    have hA := hA.sub s_3
    have hH := hH.sub s_3
    have hb_3 : Has w_3 b_3 ([.slice na A.nodes.length nc, .slice fa A.free.length fc]) _ := hb_3
    refine RL.ev (.assign rfl) rfl rfl ?_
    refine RL.nil (RC.back ?_)
    refine RC.seq ?_
    refine RC.seq ?_
    refine RC.region rfl ?_
    refine RL.ev (.move rfl) rfl rfl ?_
    refine RL.ev (.bin rfl rfl rfl) rfl rfl ?_
    refine RL.nil (RC.back ?_)
    refine RC.cond_dec rfl (fun h1 => ?_) (fun h1 => ?_)
    ·
      exact absurd h1 hr0
    ·
      refine RC.skip (RC.back ?_)
      refine RC.seq ?_
      refine RC.region rfl ?_
      refine RL.ev (.loadR ([.slice na A.nodes.length nc, .slice fa A.free.length fc]) sh28 rfl hb_3.row rfl) rfl rfl ?_
      refine RL.ev (.move rfl) rfl rfl ?_
      refine RL.call rfl ok34 (c_aGet A na fa nc fc r hr w_3 hA.now) rfl rfl ?_
      rintro _ w2 ⟨rfl, s3⟩
      have G := G.trans s3.agr
      have hA := hA.sub s3
      have hH := hH.sub s3
      have hb_3 := hb_3.sub s3
      refine RL.ev (.as (v' := .tuple #[x.val, .int .i64 0]) (.move rfl) (by rw [getV_yes hx])) rfl rfl ?_
      refine RL.ev (.extract rfl rfl) rfl rfl ?_
      refine RL.ev (.extract rfl rfl) rfl rfl ?_
      refine RL.alloc ze69 rfl rfl (fun b_7 w_7 e_7 z_7 hb_7 s_7 => ?_)
      have n_3__7 := hb_3.ne e_7
      have d_hA_b_7 := hA.neNew e_7
      have d_hH_b_7 := hH.neNew e_7
      have geG_7 := agLe G e_7
      have G := G.trans s_7.agr
      have hA := hA.sub s_7
      have hH := hH.sub s_7
      have hb_3 := hb_3.sub s_7
      refine RL.store sh69 rfl rfl rfl hb_7 (by exact Nat.le_of_ble_eq_true rfl) (by rfl) rfl (fun w4 z4 hb_7 a4 => ?_)
      have G := agNew G a4 geG_7
      have hA := hA.updD a4 d_hA_b_7
      have hH := hH.updD a4 d_hH_b_7
      have hb_3 := hb_3.upd a4 n_3__7
      have hb_7 : Has w4 b_7 (x.cells) _ := hb_7.now (by kernel_rfl)
      refine RL.ev (.assign rfl) rfl rfl ?_
      refine RL.nil (RC.back ?_)
      refine RC.seq ?_
      refine RC.region rfl ?_
      refine RL.ev (.loadR ([.slice na A.nodes.length nc, .slice fa A.free.length fc]) sh28 rfl hb_3.row rfl) rfl rfl ?_
      refine RL.ev (.field0 fo69_5 rfl) rfl rfl ?_
      refine RL.ev (.indexArr ar67 rfl rfl (by omega)) rfl rfl ?_
      refine RL.ev (.load1 sh30 rfl (hb_7.cell rfl)) rfl rfl ?_
      refine RL.ev (.move rfl) rfl rfl ?_
      refine RL.call rfl ok30 (ih1 s C M w4 (hxo.kids _ (by simp [Node.kids])) (by omega) hA hMC hH) rfl rfl ?_
      rintro _ w5 ⟨C1, rfl, hH1, ag, up⟩
      have hG3 := geG_3
      have hG7 := geG_7
      have nb3 : ¬ C1 b_3 := up.not hb_3.lt (fun e => by have := hCw _ e; omega)
      have nb7 : ¬ C1 b_7 := up.not hb_7.lt (fun e => by have := hCw _ e; omega)
      have hMC1 : ∀ k, M k → ¬ C1 k := fun k hk => up.not (hA.lt k hk) (hMC k hk)
      have hb_3 := hb_3.step ag (fun e => by have := hCw _ e; omega)
      have hb_7 := hb_7.step ag (fun e => by have := hCw _ e; omega)
      have up := up.le G.size
      have G := G.trans ag
      have hA := hA.step ag hMC
      have hH := hH1
      refine RL.ev (.move rfl) rfl rfl ?_
      refine RL.splitB 23 rfl (fun h7 => ?_) (fun h7 => ?_)
      ·
        have q1 := h7
        rw [q1] at hH
        refine RL.ev (.move rfl) rfl rfl ?_
        refine RL.ev (.field0 fo69_2 rfl) rfl rfl ?_
        refine RL.ev (.load1 sh2 rfl (hb_7.cell rfl)) rfl rfl ?_
        refine RL.ev (.field0 fo69_3 rfl) rfl rfl ?_
        refine RL.ev (.load1 sh2 rfl (hb_7.cell rfl)) rfl rfl ?_
        refine RL.ev (.as (v' := (⟨x.n, x.v⟩ : It).val) (.buildS ze42 pl42 rfl rfl) (by rfl)) rfl rfl ?_
        refine RL.yield rfl rfl (hT (pushF step s L).1 ⟨x.n, x.v⟩ C1 w5 ⟨hxo.n, hxo.v⟩ (by omega) hH) rfl rfl ?_
        rintro _ w8 ⟨C2, rfl, hH2, ag2, up2⟩
        have nb3' : ¬ C2 b_3 := up2.not hb_3.lt nb3
        have nb7' : ¬ C2 b_7 := up2.not hb_7.lt nb7
        have hMC2 : ∀ k, M k → ¬ C2 k := fun k hk => up2.not (hA.lt k hk) (hMC1 k hk)
        have hb_3 := hb_3.step ag2 nb3
        have hb_7 := hb_7.step ag2 nb7
        have up2 := up.trans (up2.le G.size)
        have G := G.up up ag2
        have hA := hA.step ag2 hMC1
        have hH := hH2
        refine RL.ev (.pick_t rfl rfl) rfl rfl ?_
        refine RL.ev (.move rfl) rfl rfl ?_
        refine RL.splitB 32 rfl (fun h10 => ?_) (fun h10 => ?_)
        ·
          have q2 := h10
          rw [q2] at hH
          refine RL.ev (.loadR ([.slice na A.nodes.length nc, .slice fa A.free.length fc]) sh28 rfl hb_3.row rfl) rfl rfl ?_
          refine RL.ev (.field0 fo69_5 rfl) rfl rfl ?_
          refine RL.ev (.indexArr ar67 rfl rfl (by omega)) rfl rfl ?_
          refine RL.ev (.load1 sh30 rfl (hb_7.cell rfl)) rfl rfl ?_
          refine RL.ev (.move rfl) rfl rfl ?_
          refine RL.call rfl ok30 (ih2 _ C2 M w8 (hxo.kids _ (by simp [Node.kids])) (by omega) hA hMC2 hH) rfl rfl ?_
          rintro _ w11 ⟨C3, rfl, hH3, ag3, up3⟩
          have up3 := up2.trans (up3.le G.size)
          have G := G.up up2 ag3
          refine RL.ev (.pick_t rfl rfl) rfl rfl ?_
          refine RL.ev (.assign rfl) rfl rfl ?_
          refine RL.nil (RC.back ?_)
          refine RC.done (rs := [.tmp 6]) (vs := [_]) rfl rfl ⟨rfl, trivial⟩ ?_
          -- end 1
          rw [pushF_app q1, pushF_t q2]
          exact ⟨C3, rfl, hH3, G, up3⟩
        ·
          have q2 := h10
          refine RL.off rfl rfl ?_
          refine RL.off rfl rfl ?_
          refine RL.off rfl rfl ?_
          refine RL.off rfl rfl ?_
          refine RL.off rfl rfl ?_
          refine RL.off rfl rfl ?_
          refine RL.ev (.pick_f rfl rfl) rfl rfl ?_
          refine RL.ev (.assign rfl) rfl rfl ?_
          refine RL.nil (RC.back ?_)
          refine RC.done (rs := [.tmp 6]) (vs := [_]) rfl rfl ⟨rfl, trivial⟩ ?_
          -- end 2
          rw [q2] at hH
          rw [pushF_app q1, pushF_f q2]
          exact ⟨C2, rfl, hH, G, up2⟩
      ·
        have q1 := h7
        refine RL.off rfl rfl ?_
        refine RL.off rfl rfl ?_
        refine RL.off rfl rfl ?_
        refine RL.off rfl rfl ?_
        refine RL.off rfl rfl ?_
        refine RL.off rfl rfl ?_
        refine RL.off rfl rfl ?_
        refine RL.ev (.pick_f rfl rfl) rfl rfl ?_
        refine RL.ev (.move rfl) rfl rfl ?_
        refine RL.off rfl rfl ?_
        refine RL.off rfl rfl ?_
        refine RL.off rfl rfl ?_
        refine RL.off rfl rfl ?_
        refine RL.off rfl rfl ?_
        refine RL.off rfl rfl ?_
        refine RL.ev (.pick_f rfl rfl) rfl rfl ?_
        refine RL.ev (.assign rfl) rfl rfl ?_
        refine RL.nil (RC.back ?_)
        refine RC.done (rs := [.tmp 6]) (vs := [_]) rfl rfl ⟨rfl, trivial⟩ ?_
        -- end 3
        rw [pushF_l q1]
        exact ⟨C1, by rw [q1]; rfl, hH, G, up⟩
theorem c_items1 {σ : Type} (l : Nat) (H : σ → Bool → (Nat → Prop) → World → Prop) (step : σ → It → σ × Bool) (cnt : σ → Nat) (N : Nat) (hc : ∀ s x, cnt (step s x).1 ≤ cnt s + 1) (hT : YT Try.prog l It.val It.ok cnt N H step)
    (A : Ar) (na fa : Option Addr) (nc fc : Nat) (r : Int) (L : List It) (hL : IsT A r L) (s : σ) (C M : Nat → Prop) (b2 b3 : Nat) (w : World) (hr : U64 r) (hN : cnt s + L.length ≤ N) (hA : Ft M (fun u => ArR u na fa A) w) (hMC : ∀ k, M k → ¬ C k) (hH : Ft C (H s true C) w)
    (h2 : Has w b2 [.slice na A.nodes.length nc, .slice fa A.free.length fc] 28) (h3 : Has w b3 [.int .u64 r] 30) :
    FC Try.prog 29 [.func (.yield l) #[] #[], .pointer (some ⟨b2, 0, none⟩), .pointer (some ⟨b3, 0, none⟩)] w (fun _ w' => ∃ C', Ft C' (H (pushF step s L).1 (pushF step s L).2 C') w' ∧ Agr C w w' ∧ Up C w C') := by
  refine FC.intro Try.func29 rfl Try.ntmps29 rfl ?_
  refine RC.region rfl ?_
  refine RL.ev (.loadR ([.slice na A.nodes.length nc, .slice fa A.free.length fc]) sh28 rfl h2.row rfl) rfl rfl ?_
  refine RL.ev (.load1 sh30 rfl (h3.cell rfl)) rfl rfl ?_
  refine RL.ev (.move rfl) rfl rfl ?_
  refine RL.call rfl ok30 (c_push l H step cnt N hc hT A na fa nc fc r L hL s C M w hr hN hA hMC hH) rfl rfl ?_
  rintro _ w1 ⟨C1, rfl, hH1, ag, up⟩
  refine RL.nil ?_
  refine fun a ka => ⟨ka.defers, _, run_results (rs := []) (vs := []) ka rfl trivial, ?_⟩
  -- end 1
  exact ⟨C1, hH1, ag, up⟩
theorem c_items (A : Ar) (na fa : Option Addr) (nc fc : Nat) (r : Int) (w : World) :
    FC Try.prog 20 [arV na fa nc fc A, .int .u64 r] w (fun v w' => ∃ b2 b3, v = .func (.func 29) #[] #[.pointer (some ⟨b2, 0, none⟩), .pointer (some ⟨b3, 0, none⟩)] ∧ Has w' b2 [.slice na A.nodes.length nc, .slice fa A.free.length fc] 28 ∧ Has w' b3 [.int .u64 r] 30 ∧ Sub w w') := by
  refine FC.intro Try.func20 rfl Try.ntmps20 rfl ?_
  have S := Sub.refl w
  refine RC.seq ?_
  refine RC.region rfl ?_
  refine RL.box rfl rfl rfl (fun b_2 w_2 e_2 z_2 hb_2 s_2 => ?_)
  have ge_2 := S.le e_2
  have S := S.trans s_2
  have hb_2 : Has w_2 b_2 ([.slice na A.nodes.length nc, .slice fa A.free.length fc]) _ := hb_2
  refine RL.box rfl rfl rfl (fun b_3 w_3 e_3 z_3 hb_3 s_3 => ?_)
  have ge_3 := S.le e_3
  have n_2__3 := hb_2.ne e_3
  have S := S.trans s_3
  have hb_2 := hb_2.sub s_3
  refine RL.ev (.assign rfl) rfl rfl ?_
  refine RL.nil (RC.back ?_)
  refine RC.seq ?_
  refine RC.region rfl ?_
  refine RL.ev (.func (xs := []) (ys := [_, _]) rfl rfl) rfl rfl ?_
  refine RL.ev (.assign rfl) rfl rfl ?_
  refine RL.nil (RC.back ?_)
  refine RC.done (rs := [.tmp 4]) (vs := [_]) rfl rfl ⟨rfl, trivial⟩ ?_
  -- end 1
  exact ⟨b_2, b_3, rfl, hb_2, hb_3, S⟩
/-! ### the row from low to high -/
def inR (low high : Int) (l : List It) : List It := l.filter fun x => decide (low ≤ x.k ∧ x.k ≤ high)
def stAll (low high : Int) (s : List It) (x : It) : List It × Bool := if x.k > high then (s, false) else if low ≤ x.k then (s ++ [x], true) else (s, true)
theorem stAll_cnt (low high : Int) (s : List It) (x : It) : (stAll low high s x).1.length ≤ s.length + 1 := by
  unfold stAll
  split
  · simp
  · split <;> simp
theorem push_all {low high : Int} : ∀ {l : List It}, Srt l → ∀ s, (pushF (stAll low high) s l).1 = s ++ inR low high l
  | [], _, s => by simp [pushF, inR]
  | x :: l, h, s => by
    have h2 := List.pairwise_cons.1 h
    rw [pushF]
    by_cases q : x.k > high
    · have e : stAll low high s x = (s, false) := if_pos q
      rw [e]
      have : inR low high (x :: l) = [] := by
        unfold inR
        rw [List.filter_eq_nil_iff]
        intro y hy
        rcases List.mem_cons.1 hy with rfl | hy
        · simp; omega
        · have := h2.1 y hy; simp; omega
      simp [this]
    · by_cases q2 : low ≤ x.k
      · have e : stAll low high s x = (s ++ [x], true) := by rw [stAll, if_neg q, if_pos q2]
        rw [e, if_pos rfl, push_all h2.2]
        have : inR low high (x :: l) = x :: inR low high l := by
          unfold inR; rw [List.filter_cons, if_pos (by simp; omega)]
        rw [this]; simp
      · have e : stAll low high s x = (s, true) := by rw [stAll, if_neg q, if_neg q2]
        rw [e, if_pos rfl, push_all h2.2]
        have : inR low high (x :: l) = inR low high l := by
          unfold inR; rw [List.filter_cons, if_neg (by simp; omega)]
        rw [this]
/-- how the boxes of All stand between two rounds -/
def HAll (l : Nat) (rL : Loop) (b6 b7 b10 base : Nat) (low high : Int) (rows : List It) (b : Bool) (C : Nat → Prop) (W : World) : Prop :=
  ∃ v, (Lp l (recB rL 0 b) W ∧ Has W b6 [.int .i64 low] 2 ∧ Has W b7 [.int .i64 high] 2 ∧ Has W b10 [v] 23 ∧ Ows base W 42 2 v (rows.map It.cells)) ∧ (∀ k, ob v = some k → k ≠ l ∧ k ≠ b6 ∧ k ≠ b7 ∧ k ≠ b10) ∧ ∀ k, C k ↔ (k = l ∨ k = b10 ∨ ob v = some k) ∨ (k = b6 ∨ k = b7)
theorem HAll.ft {l : Nat} {rL : Loop} {b6 b7 b10 base : Nat} {low high : Int} {rows : List It} {b : Bool} {C : Nat → Prop} {W : World} {v : Value} (hC : ∀ k, C k ↔ (k = l ∨ k = b10 ∨ ob v = some k) ∨ (k = b6 ∨ k = b7))
    (h1 : Lp l (recB rL 0 b) W) (h2 : Has W b6 [.int .i64 low] 2) (h3 : Has W b7 [.int .i64 high] 2) (h4 : Has W b10 [v] 23) (h5 : Ows base W 42 2 v (rows.map It.cells)) (hob : ∀ k, ob v = some k → k ≠ l ∧ k ≠ b6 ∧ k ≠ b7 ∧ k ≠ b10) :
    Ft C (HAll l rL b6 b7 b10 base low high rows b C) W := by
  refine ⟨fun k hk => ?_, fun u a => ⟨v, ⟨h1.step a (fun hn => hn ((hC _).2 (.inl (.inl rfl)))), h2.step a (fun hn => hn ((hC _).2 (.inr (.inl rfl)))), h3.step a (fun hn => hn ((hC _).2 (.inr (.inr rfl)))), h4.step a (fun hn => hn ((hC _).2 (.inl (.inr (.inl rfl))))), h5.step a (fun k hk hn => hn ((hC k).2 (.inl (.inr (.inr hk)))))⟩, hob, hC⟩⟩
  rcases (hC k).1 hk with (rfl | rfl | h) | (rfl | rfl)
  · exact h1.lt
  · exact h4.lt
  · exact (h5.ge k h).2
  · exact h2.lt
  · exact h3.lt
theorem c_all (A : Ar) (na fa : Option Addr) (nc fc : Nat) (r : Int) (hr : U64 r) (low high : Int) (w : World) (hA : ArR w na fa A) :
    FC Try.prog 9 [arV na fa nc fc A, .int .u64 r, .int .i64 low, .int .i64 high] w (fun v w' => Sub w w' ∧ ∃ a c rows e, v = .tuple #[.slice a (rows.map It.cells).length c, .int .i64 e] ∧ Ows w.heap.size w' 42 2 (.slice a (rows.map It.cells).length c) (rows.map It.cells) ∧ (¬ isMap A r → e = 1) ∧ ∀ L, isMap A r → IsT A r L → rows = inR low high L ∧ e = 0) := by
  refine FC.introM Try.func9 rfl Try.ntmps9 rfl ?_
  have S := Sub.refl w
  refine RC.seq ?_
  refine RC.region rfl ?_
  refine RL.box rfl rfl rfl (fun b_4 w_4 e_4 z_4 hb_4 s_4 => ?_)
  have ge_4 := S.le e_4
  have S := S.trans s_4
  have hb_4 : Has w_4 b_4 ([.slice na A.nodes.length nc, .slice fa A.free.length fc]) _ := hb_4
  refine RL.box rfl rfl rfl (fun b_6 w_6 e_6 z_6 hb_6 s_6 => ?_)
  have ge_6 := S.le e_6
  have n_4__6 := hb_4.ne e_6
  have S := S.trans s_6
  have hb_4 := hb_4.sub s_6
  refine RL.box rfl rfl rfl (fun b_7 w_7 e_7 z_7 hb_7 s_7 => ?_)
  have ge_7 := S.le e_7
  have n_4__7 := hb_4.ne e_7
  have n_6__7 := hb_6.ne e_7
  have S := S.trans s_7
  have hb_4 := hb_4.sub s_7
  have hb_6 := hb_6.sub s_7
  refine RL.ev (.assign rfl) rfl rfl ?_
  refine RL.ev (.assign rfl) rfl rfl ?_
  refine RL.nil (RC.back ?_)
  refine RC.seq ?_
  refine RC.seq ?_
  refine RC.region rfl ?_
  refine RL.ev (.loadR ([.slice na A.nodes.length nc, .slice fa A.free.length fc]) sh28 rfl hb_4.row rfl) rfl rfl ?_
  refine RL.ev (.move rfl) rfl rfl ?_
  refine RL.call rfl ok19 (c_tRight A na fa nc fc r hr w_7 (hA.sub S)) rfl rfl ?_
  rintro _ w1 ⟨rfl, s2⟩
  have S := S.trans s2
  have hb_4 := hb_4.sub s2
  have hb_6 := hb_6.sub s2
  have hb_7 := hb_7.sub s2
  refine RL.ev (.not rfl) rfl rfl ?_
  refine RL.nil (RC.back ?_)
  refine RC.cond rfl (fun h3 => ?_) (fun h3 => ?_)
  ·
    have hno : ¬ isMap A r := (fun h => by have h2 := h3; rw [isMapB_yes h] at h2; cases h2)
    refine RC.seq ?_
    refine RC.region rfl ?_
    refine RL.ev (.assign rfl) rfl rfl ?_
    refine RL.ev (.assign rfl) rfl rfl ?_
    refine RL.nil (RC.back ?_)
    refine RC.doneM0 (rs := [.tmp 8, .tmp 9]) (vs := [_, _]) rfl rfl ⟨rfl, rfl, trivial⟩ ?_
    -- end 1
    exact ⟨S, none, 0, [], 1, rfl, Ows.nil _ _ _ _, fun _ => rfl, fun L hm _ => absurd hm hno⟩
  ·
    have hmb : isMapB A r = true := (by simpa using h3)
    have hmap : isMap A r := (isMapB_iff A r).1 (by simpa using h3)
    obtain ⟨_, L, hT, hL2⟩ := id hmap
    have hsrt := hT.srt
    refine RC.skip (RC.back ?_)
    refine RC.seq ?_
    refine RC.region rfl ?_
    refine RL.alloc ze23 rfl rfl (fun b_10 w_10 e_10 z_10 hb_10 s_10 => ?_)
    have ge_10 := S.le e_10
    have n_4__10 := hb_4.ne e_10
    have n_6__10 := hb_6.ne e_10
    have n_7__10 := hb_7.ne e_10
    have S := S.trans s_10
    have hb_4 := hb_4.sub s_10
    have hb_6 := hb_6.sub s_10
    have hb_7 := hb_7.sub s_10
    refine RL.nil (RC.back ?_)
    refine RC.seq ?_
    refine RC.seq ?_
    refine RC.region rfl ?_
    refine RL.ev (.loadR ([.slice na A.nodes.length nc, .slice fa A.free.length fc]) sh28 rfl hb_4.row rfl) rfl rfl ?_
    refine RL.ev (.move rfl) rfl rfl ?_
    refine RL.call rfl ok20 (c_items A na fa nc fc r w_10) rfl rfl ?_
    rintro _ w4 ⟨bA, bR, rfl, hbA, hbR, s5⟩
    have S := S.trans s5
    have hb_4 := hb_4.sub s5
    have hb_6 := hb_6.sub s5
    have hb_7 := hb_7.sub s5
    have hb_10 := hb_10.sub s5
    refine RL.nil (RC.back ?_)
    refine RC.range (cs := [_, _]) rfl ok29 ?_
    intro rL W1 hst hpe hps hasg hbd hk1 s1 z1 hL hD
    obtain ⟨b_D, eD⟩ : ∃ D, D = w4.heap.size := ⟨_, rfl⟩
    rw [← eD] at hk1 z1 hL hD ⊢
    obtain ⟨b_l, el⟩ : ∃ l, l = b_D + 1 := ⟨_, rfl⟩
    rw [← el] at hk1 hL ⊢
    have n_D_l : b_D ≠ b_l := by omega
    have ge_D : _ ≤ b_D := Nat.le_trans S.size (by omega)
    have ge_l : _ ≤ b_l := Nat.le_trans S.size (by omega)
    have nb_4_b_D : b_4 ≠ b_D := fun e => by have := hb_4.lt; omega
    have nb_4_b_l : b_4 ≠ b_l := fun e => by have := hb_4.lt; omega
    have nb_6_b_D : b_6 ≠ b_D := fun e => by have := hb_6.lt; omega
    have nb_6_b_l : b_6 ≠ b_l := fun e => by have := hb_6.lt; omega
    have nb_7_b_D : b_7 ≠ b_D := fun e => by have := hb_7.lt; omega
    have nb_7_b_l : b_7 ≠ b_l := fun e => by have := hb_7.lt; omega
    have nb_10_b_D : b_10 ≠ b_D := fun e => by have := hb_10.lt; omega
    have nb_10_b_l : b_10 ≠ b_l := fun e => by have := hb_10.lt; omega
    have S := S.trans s1
    have hb_4 := hb_4.sub s1
    have hb_6 := hb_6.sub s1
    have hb_7 := hb_7.sub s1
    have hb_10 := hb_10.sub s1
    rw [recB_0 (id := 0) hst hpe] at hL
    have hY : YT Try.prog b_l It.val It.ok List.length 200 (HAll b_l rL b_6 b_7 b_10 w.heap.size low high) (stAll low high) := by
      intro s x C W hx hcn hH
      obtain ⟨v, ⟨hL, hb_6, hb_7, hb_10, o⟩, hob, hC⟩ := hH.now
      have szB : w.heap.size ≤ W.heap.size := (by have := hL.lt; omega)
      have G : Agr (fun k => k = b_l ∨ k = b_10 ∨ ob v = some k) W W := Agr.refl _ _
      refine FY.intro (m := 33) (F := upd _ (some 19) x.val) [0] hL rfl (by show 1 = rL.params.size; rw [hps]; rfl) (knows1 hps hk1 rfl) ?_
      show RC _ _ rL.assign _ _ _
      rw [hasg]
      refine RC.region rfl ?_
      refine RL.alloc ze42 rfl rfl (fun b_11 w_11 e_11 z_11 hb_11 s_11 => ?_)
      have n_l__11 := hL.ne e_11
      have n_6__11 := hb_6.ne e_11
      have n_7__11 := hb_7.ne e_11
      have n_10__11 := hb_10.ne e_11
      have d_o_b_11 := o.neNew e_11
      have hL := hL.sub s_11
      have hb_6 := hb_6.sub s_11
      have hb_7 := hb_7.sub s_11
      have hb_10 := hb_10.sub s_11
      have o := o.sub s_11
      have geG_11 := agLe G e_11
      have G := G.trans s_11.agr
      have szB := Nat.le_trans szB s_11.size
      refine RL.store sh42 rfl rfl rfl hb_11 (by exact Nat.le_of_ble_eq_true rfl) (by rfl) rfl (fun w6 z6 hb_11 a6 => ?_)
      have hL := hL.upd a6 n_l__11
      have hb_6 := hb_6.upd a6 n_6__11
      have hb_7 := hb_7.upd a6 n_7__11
      have hb_10 := hb_10.upd a6 n_10__11
      have o := o.updD a6 d_o_b_11
      have G := agNew G a6 geG_11
      have szB := Nat.le_trans szB a6.size
      have hb_11 : Has w6 b_11 (x.cells) _ := hb_11.now (by kernel_rfl)
      refine RL.nil (RC.begin hL ?_)
      intro w7 a7 z7 hL
      have hb_6 := hb_6.step a7 (fun e => nb_6_b_l e)
      have hb_7 := hb_7.step a7 (fun e => nb_7_b_l e)
      have hb_10 := hb_10.step a7 (fun e => nb_10_b_l e)
      have o := o.step a7 (fun k hk e => (fun k hk => (hob k hk).1) k hk e)
      have G := G.trans (a7.mono fun k _ e => .inl e)
      have szB := Nat.le_trans szB a7.size
      have hb_11 := hb_11.step a7 (fun e => n_l__11.symm e)
      show RC _ _ rL.body _ _ _
      rw [hbd]
      refine RC.block ?_
      refine RC.seq ?_
      refine RC.seq ?_
      refine RC.region rfl ?_
      refine RL.ev (.field0 fo42_0 rfl) rfl rfl ?_
      refine RL.ev (.load1 sh2 rfl (hb_11.cell rfl)) rfl rfl ?_
      refine RL.ev (.load1 sh2 rfl (hb_7.cell rfl)) rfl rfl ?_
      refine RL.ev (.bin rfl rfl rfl) rfl rfl ?_
      refine RL.nil (RC.back ?_)
      refine RC.cond_dec rfl (fun h8 => ?_) (fun h8 => ?_)
      ·
        have q1 := h8
        refine RC.exit rfl (RC.endr (j := some (.exit 0)) hL ?_)
        intro w9 a9 z9 hL
        have hb_6 := hb_6.step a9 (fun e => nb_6_b_l e)
        have hb_7 := hb_7.step a9 (fun e => nb_7_b_l e)
        have hb_10 := hb_10.step a9 (fun e => nb_10_b_l e)
        have o := o.step a9 (fun k hk e => (fun k hk => (hob k hk).1) k hk e)
        have G := G.trans (a9.mono fun k _ e => .inl e)
        have szB := Nat.le_trans szB a9.size
        have hb_11 := hb_11.step a9 (fun e => n_l__11.symm e)
        -- round end 1
        rw [show stAll low high s x = (s, false) from if_pos q1]
        exact ⟨C, rfl, HAll.ft hC hL hb_6 hb_7 hb_10 o hob, G.mono fun k _ e => (hC k).2 (.inl e), Up.refl _ _⟩
      ·
        have q1 := h8
        refine RC.skip (RC.back ?_)
        refine RC.seq ?_
        refine RC.region rfl ?_
        refine RL.ev (.field0 fo42_0 rfl) rfl rfl ?_
        refine RL.ev (.load1 sh2 rfl (hb_11.cell rfl)) rfl rfl ?_
        refine RL.ev (.load1 sh2 rfl (hb_6.cell rfl)) rfl rfl ?_
        refine RL.ev (.bin rfl rfl rfl) rfl rfl ?_
        refine RL.nil (RC.back ?_)
        refine RC.cond_dec rfl (fun h10 => ?_) (fun h10 => ?_)
        ·
          have q2 := h10
          refine RC.region rfl ?_
          refine RL.ev (.load1 sh23 rfl (hb_10.cell rfl)) rfl rfl ?_
          refine RL.ev (.loadR (x.cells) sh42 rfl hb_11.row rfl) rfl rfl ?_
          refine RL.buildSlice1 sl23 _ ze42 rfl rfl rfl rfl rfl rfl rfl (fun b_30 w_30 e_30 z_30 hb_30 s_30 => ?_)
          have n_6__30 := hb_6.ne e_30
          have n_7__30 := hb_7.ne e_30
          have n_10__30 := hb_10.ne e_30
          have n_11__30 := hb_11.ne e_30
          have n_l__30 := hL.ne e_30
          have d_o_b_30 := o.neNew e_30
          have hb_6 := hb_6.sub s_30
          have hb_7 := hb_7.sub s_30
          have hb_10 := hb_10.sub s_30
          have o := o.sub s_30
          have geG_30 := agLe G e_30
          have G := G.trans s_30.agr
          have szB := Nat.le_trans szB s_30.size
          have hb_11 := hb_11.sub s_30
          have hL := hL.sub s_30
          have ltb_6_31 := hb_6.lt
          have ltb_7_31 := hb_7.lt
          have ltb_10_31 := hb_10.lt
          have szG_31 := G.size
          have ltb_11_31 := hb_11.lt
          have ltb_l_31 := hL.lt
          have ltb_30_31 := hb_30.lt
          refine RL.append2 (base := w.heap.size) (rows := s.map It.cells) (news := [_]) sl23 ze42 rfl rfl rfl rfl (.inl o) (Has.slOne hb_30) rfl (by intro r hr; rw [List.mem_singleton] at hr; subst hr; rfl) rfl (by (try simp only [List.length_map, List.length_nil, List.length_append, List.length_cons]); omega) (by (try simp only [List.length_map, List.length_nil, List.length_append, List.length_cons]); omega) (by omega) rfl rfl (fun v_31 w_31 hc_31 ho_31 ag_31 ob_31 => ?_)
          have o31 := ho_31 (.inl (by simp))
          rw [show _ ++ [_] = ((s ++ [x]).map It.cells) from by rw [List.map_append]; rfl] at o31
          have d_o31_b_6 := obNe ob_31 (fun k hk => (hob k hk).2.1) hb_6.lt
          have d_o31_b_7 := obNe ob_31 (fun k hk => (hob k hk).2.2.1) hb_7.lt
          have d_o31_b_10 := obNe ob_31 (fun k hk => (hob k hk).2.2.2) hb_10.lt
          have d_o31_b_11 := obNe ob_31 d_o_b_11 hb_11.lt
          have d_o31_b_l := obNe ob_31 (fun k hk => (hob k hk).1) hL.lt
          have hb_6 := hb_6.step ag_31 (fun e => (fun k hk => (hob k hk).2.1) _ e.1 rfl)
          have hb_7 := hb_7.step ag_31 (fun e => (fun k hk => (hob k hk).2.2.1) _ e.1 rfl)
          have hb_10 := hb_10.step ag_31 (fun e => (fun k hk => (hob k hk).2.2.2) _ e.1 rfl)
          have G := G.trans (ag_31.mono fun k _ e => .inr (.inr e.1))
          have szB := Nat.le_trans szB ag_31.size
          have hb_11 := hb_11.step ag_31 (fun e => d_o_b_11 _ e.1 rfl)
          have hL := hL.step ag_31 (fun e => (fun k hk => (hob k hk).1) _ e.1 rfl)
          obtain ⟨a_31, c_31, rfl, k_31⟩ := o31.form
          refine RL.store sh23 rfl rfl rfl hb_10 (by exact Nat.le_of_ble_eq_true rfl) (by rfl) rfl (fun w11 z11 hb_10 a11 => ?_)
          have hb_6 := hb_6.upd a11 n_6__10
          have hb_7 := hb_7.upd a11 n_7__10
          have G := G.trans (a11.mono fun k _ e => .inr (.inl e))
          have szB := Nat.le_trans szB a11.size
          have hb_11 := hb_11.upd a11 n_10__11.symm
          have hL := hL.upd a11 nb_10_b_l.symm
          have o31 := o31.updD a11 d_o31_b_10
          refine RL.nil (RC.endr (j := none) hL ?_)
          intro w12 a12 z12 hL
          have hb_6 := hb_6.step a12 (fun e => nb_6_b_l e)
          have hb_7 := hb_7.step a12 (fun e => nb_7_b_l e)
          have hb_10 := hb_10.step a12 (fun e => nb_10_b_l e)
          have G := G.trans (a12.mono fun k _ e => .inl e)
          have szB := Nat.le_trans szB a12.size
          have hb_11 := hb_11.step a12 (fun e => n_l__11.symm e)
          have o31 := o31.step a12 (fun k hk e => d_o31_b_l k hk e)
          -- round end 2
          rw [show stAll low high s x = (s ++ [x], true) from by rw [stAll, if_neg q1, if_pos q2]]
          refine ⟨_, rfl, HAll.ft (fun _ => Iff.rfl) hL hb_6 hb_7 hb_10 o31 (fun k hk => ⟨d_o31_b_l k hk, d_o31_b_6 k hk, d_o31_b_7 k hk, d_o31_b_10 k hk⟩), G.mono fun k _ e => (hC k).2 (.inl e), fun k hk => ?_⟩
          rcases hk with (e | e | e) | e
          · exact .inl ((hC k).2 (.inl (.inl e)))
          · exact .inl ((hC k).2 (.inl (.inr (.inl e))))
          · rcases ob_31 with h | ⟨c, h, h3⟩
            · exact .inl ((hC k).2 (.inl (.inr (.inr (h ▸ e)))))
            · rw [h] at e; cases e; exact .inr (Nat.le_trans szG_31 h3)
          · exact .inl ((hC k).2 (.inr e))
        ·
          have q2 := h10
          refine RC.skip (RC.endr (j := none) hL ?_)
          intro w13 a13 z13 hL
          have hb_6 := hb_6.step a13 (fun e => nb_6_b_l e)
          have hb_7 := hb_7.step a13 (fun e => nb_7_b_l e)
          have hb_10 := hb_10.step a13 (fun e => nb_10_b_l e)
          have o := o.step a13 (fun k hk e => (fun k hk => (hob k hk).1) k hk e)
          have G := G.trans (a13.mono fun k _ e => .inl e)
          have szB := Nat.le_trans szB a13.size
          have hb_11 := hb_11.step a13 (fun e => n_l__11.symm e)
          -- round end 3
          rw [show stAll low high s x = (s, true) from by rw [stAll, if_neg q1, if_neg q2]]
          exact ⟨C, rfl, HAll.ft hC hL hb_6 hb_7 hb_10 o hob, G.mono fun k _ e => (hC k).2 (.inl e), Up.refl _ _⟩
    refine FC.mono (c_items1 b_l _ _ _ _ (stAll_cnt low high) hY A na fa nc fc r L hT [] (fun k => (k = b_l ∨ k = b_10 ∨ ob (.slice none 0 0) = some k) ∨ (k = b_6 ∨ k = b_7)) (· < w.heap.size) bA bR W1 hr (by simpa using hL2) ((Ft.of_sub fun u s => hA.sub s).sub S) (fun k hk e => by rcases e with (e | e | e) | (e | e) <;> first | (cases e; done) | omega) (HAll.ft (fun _ => Iff.rfl) hL hb_6 hb_7 hb_10 (Ows.nil _ _ _ _) (fun k e => by cases e)) (hbA.sub s1) (hbR.sub s1)) ?_
    rintro _ W2 ⟨C2, hH, ag, up⟩
    obtain ⟨v, ⟨hL, hb_6, hb_7, hb_10, o⟩, hob, hC⟩ := hH.now
    have hDC : ¬ ((b_D = b_l ∨ b_D = b_10 ∨ ob (.slice none 0 0) = some b_D) ∨ (b_D = b_6 ∨ b_D = b_7)) := (fun e => by rcases e with (e | e | e) | (e | e) <;> first | (cases e; done) | omega)
    have S := S.agrN ag (fun k e => by rcases e with (e | e | e) | (e | e) <;> first | (cases e; done) | omega)
    have hDn : ¬ C2 b_D := up.not hD.lt hDC
    have hD := hD.step ag hDC
    have hoD : ∀ k, ob v = some k → k ≠ b_D := fun k hk e => hDn (e ▸ (hC k).2 (.inl (.inr (.inr hk))))
    obtain ⟨a1, c1, rfl, _⟩ := o.form
    refine ⟨_, hL, recB_nb, fun W3 a3 z3 => .inl ⟨recB_pe, RC.backM ?_⟩⟩
    have S := S.agrN a3 (fun k e => e ▸ ge_l)
    have o := o.step a3 (fun k hk e => (fun k hk => (hob k hk).1) k hk e)
    have hb_10 := hb_10.step a3 (fun e => nb_10_b_l e)
    have hD := hD.step a3 (fun e => n_D_l e)
    refine RC.seq ?_
    refine RC.region rfl ?_
    refine RL.ev (.load1 sh23 rfl (hb_10.cell rfl)) rfl rfl ?_
    refine RL.ev (.assign rfl) rfl rfl ?_
    refine RL.ev (.assign rfl) rfl rfl ?_
    refine RL.nil (RC.back ?_)
    refine RC.doneM (rs := [.tmp 8, .tmp 9]) (vs := [_, _]) rfl rfl (fun _ => ⟨rfl, rfl, trivial⟩) hD (fun w14 a14 z14 => ?_)
    have S := S.agrN a14 (fun k e => e ▸ ge_D)
    have o := o.step a14 (fun k hk e => hoD k hk e)
    have hb_10 := hb_10.step a14 (fun e => nb_10_b_D e)
    -- end 2
    exact ⟨S, a1, c1, _, 0, rfl, o, fun h => absurd hmap h, fun L' hm hl => ⟨by rw [hl.unique hT, push_all hsrt]; simp, rfl⟩⟩
end Go.Proofs.Ytdmaogopibljoaa
