/-
  What the law HamtKeeps leans on, part 4.
-/
import Derived.Test.YtbfjobmebkhblaaPHamtKeeps3
set_option linter.unusedVariables false
set_option linter.unusedSimpArgs false
namespace Go.Proofs.Ytbfjobmebkhblaa
open Go Go.XL
theorem isTab_len {A : Ar} {r : Int} {L : List It} (h : isTab A r) (hL : IsH A 10 r L) : L.length ≤ 200 := by
  obtain ⟨_, M, h1, _, h3⟩ := h
  have e1 := h1.size
  have e2 := hL.size
  omega
theorem tabL (A : Ar) (r : Int) : ∃ L, isTab A r → IsH A 10 r L ∧ Ap L := by
  by_cases h : isTab A r
  · obtain ⟨_, L, h1, h2, _⟩ := id h; exact ⟨L, fun _ => ⟨h1, h2⟩⟩
  · exact ⟨[], fun h' => absurd h' h⟩
theorem shL_9 {A : Ar} {key : Int} : ∀ {k : Nat} {r : Int} {L : List It}, IsH A k r L → shL key L ≤ 9
  | k, r, L, h => by
    have hle := shL_le key L
    rcases row_cases L with rfl | ⟨x, rfl⟩ | h2
    · simp at hle; omega
    · simp at hle; omega
    · cases k with
      | zero =>
        obtain ⟨y, m, _, _, _, q3, _, _, q6, _⟩ := clash_node ((isH_clash h2).1 h) h2
        have := q3.length_eq
        omega
      | succ k =>
        obtain ⟨y, _, _, _, q4⟩ := trie_node h h2
        rw [← shL_of key (9 - k) L]
        exact shL_9 (q4 _ (dig_lt _ _))
/-- keys that may not be put -/
def BadH (L : List It) (key : Int) : Prop := key < -1073741824 ∨ key > 1073741824 ∨ (hasK L key = false ∧ (200 ≤ L.length ∨ shL key L = 9))
def PutJH (A : Ar) (L : List It) (key v : Int) (s' : St) (r' e : Int) : Prop := (BadH L key ∧ e = 5) ∨ (¬ BadH L key ∧ e = 0 ∧ Gs (cnt 10 (putM L key v)) (A, 0) s' ∧ (s'.2 = 0 → IsH s'.1 10 r' (putM L key v)))
theorem findH_kind {L : List It} {key : Int} {y : Node} (h : FindH L key y) : (¬ y.kind = 0 ↔ hasK L key = true) ∧ (y.kind = 0 ↔ hasK L key = false) := by
  rcases h with ⟨x, h1, h2, g, rfl⟩ | ⟨h1, rfl⟩
  · have e : hasK L key = true := hasK_iff.2 ⟨x, h1, h2⟩
    rw [e]
    exact ⟨⟨fun _ => rfl, fun _ => (show ¬ (3 : Int) = 0 by decide)⟩, ⟨fun h => absurd h (show ¬ (3 : Int) = 0 by decide), fun h => by cases h⟩⟩
  · rw [hasK_no h1]
    exact ⟨⟨fun h => absurd rfl h, fun h => by cases h⟩, ⟨fun _ => rfl, fun _ => rfl⟩⟩
theorem c_put1T (A : Ar) (r key v : Int) (hr : U64 r) (hkey : I64 key) (hv : I64 v) (L : List It) (hA : AOk A) (hL : IsH A 10 r L) (hap : Ap L) (hl : L.length ≤ 200) (bf b5 b6 b7 : Nat) (C : Nat → Prop) (w : World) (hF : Ft C (Ho bf (A, 0) C) w)
    (m5 : Has w b5 [.int .u64 r] 36) (m6 : Has w b6 [.int .i64 key] 2) (m7 : Has w b7 [.int .i64 v] 2) :
    FC Try.prog 55 [.pointer (some ⟨bf, 0, none⟩), .pointer (some ⟨b5, 0, none⟩), .pointer (some ⟨b6, 0, none⟩), .pointer (some ⟨b7, 0, none⟩)] w (fun u w2 => ∃ s' r' e C', u = .tuple #[.int .u64 r', .int .i64 e] ∧ U64 r' ∧ Ft C' (Ho bf s' C') w2 ∧ Agr (· = bf) w w2 ∧ Up C w C' ∧ PutJH A L key v s' r' e) := by
  refine FC.intro Try.func55 rfl Try.ntmps55 rfl ?_
  have G : Agr (· = bf) w w := Agr.refl _ _
  refine RC.seq ?_
  refine RC.region rfl ?_
  refine RL.ev (.assign rfl) rfl rfl ?_
  refine RL.ev (.assign rfl) rfl rfl ?_
  refine RL.nil (RC.back ?_)
  refine RC.seq ?_
  refine RC.region rfl ?_
  refine RL.ev (.move rfl) rfl rfl ?_
  refine RL.ev (.load1 sh36 rfl (m5.cell rfl)) rfl rfl ?_
  refine RL.ev (.load1 sh2 rfl (m6.cell rfl)) rfl rfl ?_
  refine RL.call rfl ok56 (c_hfind bf (A, 0) C r key hr L hL w hF) rfl rfl ?_
  rintro _ w1 ⟨s2, y, rfl, hyo, hfp⟩
  have G := G.trans s2.agr
  have hF := hF.sub s2
  have m5 := m5.sub s2
  have m6 := m6.sub s2
  have m7 := m7.sub s2
  have hfk := findH_kind hfp
  refine RL.ev (.fieldV Try.underlying97 rfl sh3 rfl rfl) rfl rfl ?_
  refine RL.ev (.bin rfl rfl rfl) rfl rfl ?_
  refine RL.ev (.assign rfl) rfl rfl ?_
  refine RL.nil (RC.back ?_)
  refine RC.seq ?_
  refine RC.seq ?_
  refine RC.region rfl ?_
  refine RL.ev (.load1 sh2 rfl (m6.cell rfl)) rfl rfl ?_
  refine RL.ev (.bin rfl rfl rfl) rfl rfl ?_
  refine RL.ev (.move rfl) rfl rfl ?_
  refine RL.split 16 rfl (fun h3 => ?_) (fun h3 => ?_)
  ·
    have q1 : key < -1073741824 := h3
    refine RL.off rfl rfl ?_
    refine RL.off rfl rfl ?_
    refine RL.ev (.pick_t rfl rfl) rfl rfl ?_
    refine RL.ev (.move rfl) rfl rfl ?_
    refine RL.off rfl rfl ?_
    refine RL.off rfl rfl ?_
    refine RL.off rfl rfl ?_
    refine RL.off rfl rfl ?_
    refine RL.off rfl rfl ?_
    refine RL.off rfl rfl ?_
    refine RL.off rfl rfl ?_
    refine RL.off rfl rfl ?_
    refine RL.off rfl rfl ?_
    refine RL.off rfl rfl ?_
    refine RL.off rfl rfl ?_
    refine RL.off rfl rfl ?_
    refine RL.off rfl rfl ?_
    refine RL.off rfl rfl ?_
    refine RL.ev (.pick_t rfl rfl) rfl rfl ?_
    refine RL.nil (RC.back ?_)
    refine RC.cond_t rfl ?_
    refine RC.seq ?_
    refine RC.region rfl ?_
    refine RL.ev (.assign rfl) rfl rfl ?_
    refine RL.ev (.assign rfl) rfl rfl ?_
    refine RL.nil (RC.back ?_)
    refine RC.done (rs := [.tmp 5, .tmp 6]) (vs := [_, _]) rfl rfl ⟨rfl, rfl, trivial⟩ ?_
    -- end 1
    exact ⟨(A, 0), 0, 5, C, rfl, zu0, hF, G, Up.refl _ _, .inl ⟨.inl q1, rfl⟩⟩
  ·
    have q1 : ¬ key < -1073741824 := h3
    refine RL.ev (.load1 sh2 rfl (m6.cell rfl)) rfl rfl ?_
    refine RL.ev (.bin rfl rfl rfl) rfl rfl ?_
    refine RL.ev (.pick_f rfl rfl) rfl rfl ?_
    refine RL.ev (.move rfl) rfl rfl ?_
    refine RL.split 20 rfl (fun h4 => ?_) (fun h4 => ?_)
    ·
      have q2 : key > 1073741824 := h4
      refine RL.off rfl rfl ?_
      refine RL.off rfl rfl ?_
      refine RL.off rfl rfl ?_
      refine RL.off rfl rfl ?_
      refine RL.off rfl rfl ?_
      refine RL.off rfl rfl ?_
      refine RL.off rfl rfl ?_
      refine RL.off rfl rfl ?_
      refine RL.off rfl rfl ?_
      refine RL.off rfl rfl ?_
      refine RL.off rfl rfl ?_
      refine RL.off rfl rfl ?_
      refine RL.off rfl rfl ?_
      refine RL.off rfl rfl ?_
      refine RL.ev (.pick_t rfl rfl) rfl rfl ?_
      refine RL.nil (RC.back ?_)
      refine RC.cond_t rfl ?_
      refine RC.seq ?_
      refine RC.region rfl ?_
      refine RL.ev (.assign rfl) rfl rfl ?_
      refine RL.ev (.assign rfl) rfl rfl ?_
      refine RL.nil (RC.back ?_)
      refine RC.done (rs := [.tmp 5, .tmp 6]) (vs := [_, _]) rfl rfl ⟨rfl, rfl, trivial⟩ ?_
      -- end 2
      exact ⟨(A, 0), 0, 5, C, rfl, zu0, hF, G, Up.refl _ _, .inl ⟨.inr (.inl q2), rfl⟩⟩
    ·
      have q2 : ¬ key > 1073741824 := h4
      refine RL.ev (.move rfl) rfl rfl ?_
      refine RL.ev (.not_dec rfl) rfl rfl ?_
      refine RL.ev (.move rfl) rfl rfl ?_
      refine RL.split 23 rfl (fun h5 => ?_) (fun h5 => ?_)
      ·
        have q3 : hasK L key = false := hfk.2.1 (by have := h5; omega)
        refine RL.ev (.move rfl) rfl rfl ?_
        refine RL.ev (.load1 sh36 rfl (m5.cell rfl)) rfl rfl ?_
        refine RL.call rfl ok57 (c_hsize bf (A, 0) C r hr w1 hF) rfl rfl ?_
        rintro _ w6 ⟨rfl, s7⟩
        have G := G.trans s7.agr
        have hF := hF.sub s7
        have m5 := m5.sub s7
        have m6 := m6.sub s7
        have m7 := m7.sub s7
        refine RL.ev (.as (v' := .bool (decide (200 ≤ (L.length : Int)))) (.bin rfl rfl rfl) (by rw [hL.size])) rfl rfl ?_
        refine RL.ev (.move rfl) rfl rfl ?_
        refine RL.split 28 rfl (fun h8 => ?_) (fun h8 => ?_)
        ·
          have q4 := h8
          refine RL.off rfl rfl ?_
          refine RL.off rfl rfl ?_
          refine RL.off rfl rfl ?_
          refine RL.off rfl rfl ?_
          refine RL.ev (.pick_t rfl rfl) rfl rfl ?_
          refine RL.ev (.pick_t rfl rfl) rfl rfl ?_
          refine RL.ev (.pick_f rfl rfl) rfl rfl ?_
          refine RL.nil (RC.back ?_)
          refine RC.cond_t rfl ?_
          refine RC.seq ?_
          refine RC.region rfl ?_
          refine RL.ev (.assign rfl) rfl rfl ?_
          refine RL.ev (.assign rfl) rfl rfl ?_
          refine RL.nil (RC.back ?_)
          refine RC.done (rs := [.tmp 5, .tmp 6]) (vs := [_, _]) rfl rfl ⟨rfl, rfl, trivial⟩ ?_
          -- end 3
          exact ⟨(A, 0), 0, 5, C, rfl, zu0, hF, G, Up.refl _ _, .inl ⟨.inr (.inr ⟨q3, .inl (by omega)⟩), rfl⟩⟩
        ·
          have q4 := h8
          refine RL.ev (.move rfl) rfl rfl ?_
          refine RL.ev (.load1 sh36 rfl (m5.cell rfl)) rfl rfl ?_
          refine RL.ev (.load1 sh2 rfl (m6.cell rfl)) rfl rfl ?_
          refine RL.call rfl ok58 (c_hcrowd bf (A, 0) C r key hr L hL w6 hF) rfl rfl ?_
          rintro _ w9 ⟨rfl, s10⟩
          have G := G.trans s10.agr
          have hF := hF.sub s10
          have m5 := m5.sub s10
          have m6 := m6.sub s10
          have m7 := m7.sub s10
          refine RL.ev (.pick_f rfl rfl) rfl rfl ?_
          refine RL.ev (.pick_t rfl rfl) rfl rfl ?_
          refine RL.ev (.pick_f rfl rfl) rfl rfl ?_
          refine RL.nil (RC.back ?_)
          refine RC.cond rfl (fun h11 => ?_) (fun h11 => ?_)
          ·
            have q5 : shL key L = 9 := of_decide_eq_true h11
            refine RC.seq ?_
            refine RC.region rfl ?_
            refine RL.ev (.assign rfl) rfl rfl ?_
            refine RL.ev (.assign rfl) rfl rfl ?_
            refine RL.nil (RC.back ?_)
            refine RC.done (rs := [.tmp 5, .tmp 6]) (vs := [_, _]) rfl rfl ⟨rfl, rfl, trivial⟩ ?_
            -- end 4
            exact ⟨(A, 0), 0, 5, C, rfl, zu0, hF, G, Up.refl _ _, .inl ⟨.inr (.inr ⟨q3, .inr q5⟩), rfl⟩⟩
          ·
            have q5 : ¬ shL key L = 9 := of_decide_eq_false h11
            have hroom : Room key L := (fun _ => by have := shL_9 (key := key) hL; unfold shL at this q5; omega)
            have hnb : ¬ BadH L key := (fun h => h.elim q1 (fun h => h.elim q2 (fun h => h.2.elim (fun h => by omega) q5)))
            refine RC.skip (RC.back ?_)
            refine RC.seq ?_
            refine RC.region rfl ?_
            refine RL.ev (.move rfl) rfl rfl ?_
            refine RL.ev (.load1 sh36 rfl (m5.cell rfl)) rfl rfl ?_
            refine RL.ev (.load1 sh2 rfl (m6.cell rfl)) rfl rfl ?_
            refine RL.ev (.load1 sh2 rfl (m7.cell rfl)) rfl rfl ?_
            refine RL.call rfl ok59 (c_hput bf key v hkey hv A 10 0 r L (A, 0) C w9 (Nat.le_refl _) rfl hL hap (fun z _ => by rw [Nat.pow_zero, Nat.mod_one, Nat.mod_one]) hroom (by omega) (Ext.refl _) hA hr hF) rfl rfl ?_
            rintro _ w12 ⟨s1, C1, hg, ⟨r1, rfl, hu1, hi⟩, hF1, ag, up⟩
            have up := up.le G.size
            have G := G.trans ag
            refine RL.ev (.assign rfl) rfl rfl ?_
            refine RL.ev (.assign rfl) rfl rfl ?_
            refine RL.nil (RC.back ?_)
            refine RC.done (rs := [.tmp 5, .tmp 6]) (vs := [_, _]) rfl rfl ⟨rfl, rfl, trivial⟩ ?_
            -- end 5
            exact ⟨s1, r1, 0, C1, rfl, hu1, hF1, G, up, .inr ⟨hnb, rfl, hg.1, hi⟩⟩
      ·
        have q3 : hasK L key = true := hfk.1.1 (by have := h5; omega)
        have hroom : Room key L := (fun e => by rw [q3] at e; cases e)
        have hnb : ¬ BadH L key := (fun h => h.elim q1 (fun h => h.elim q2 (fun h => by rw [q3] at h; cases h.1)))
        refine RL.off rfl rfl ?_
        refine RL.off rfl rfl ?_
        refine RL.off rfl rfl ?_
        refine RL.off rfl rfl ?_
        refine RL.off rfl rfl ?_
        refine RL.off rfl rfl ?_
        refine RL.off rfl rfl ?_
        refine RL.off rfl rfl ?_
        refine RL.off rfl rfl ?_
        refine RL.off rfl rfl ?_
        refine RL.ev (.pick_f rfl rfl) rfl rfl ?_
        refine RL.ev (.pick_f rfl rfl) rfl rfl ?_
        refine RL.nil (RC.back ?_)
        refine RC.cond_f rfl ?_
        refine RC.skip (RC.back ?_)
        refine RC.seq ?_
        refine RC.region rfl ?_
        refine RL.ev (.move rfl) rfl rfl ?_
        refine RL.ev (.load1 sh36 rfl (m5.cell rfl)) rfl rfl ?_
        refine RL.ev (.load1 sh2 rfl (m6.cell rfl)) rfl rfl ?_
        refine RL.ev (.load1 sh2 rfl (m7.cell rfl)) rfl rfl ?_
        refine RL.call rfl ok59 (c_hput bf key v hkey hv A 10 0 r L (A, 0) C w1 (Nat.le_refl _) rfl hL hap (fun z _ => by rw [Nat.pow_zero, Nat.mod_one, Nat.mod_one]) hroom (by omega) (Ext.refl _) hA hr hF) rfl rfl ?_
        rintro _ w14 ⟨s1, C1, hg, ⟨r1, rfl, hu1, hi⟩, hF1, ag, up⟩
        have up := up.le G.size
        have G := G.trans ag
        refine RL.ev (.assign rfl) rfl rfl ?_
        refine RL.ev (.assign rfl) rfl rfl ?_
        refine RL.nil (RC.back ?_)
        refine RC.done (rs := [.tmp 5, .tmp 6]) (vs := [_, _]) rfl rfl ⟨rfl, rfl, trivial⟩ ?_
        -- end 6
        exact ⟨s1, r1, 0, C1, rfl, hu1, hF1, G, up, .inr ⟨hnb, rfl, hg.1, hi⟩⟩
def PutPH (A : Ar) (r key v : Int) (B : Ar) (r' e : Int) : Prop :=
  (¬ isTab A r → e = 1) ∧ (¬ e = 0 → B = ar0 ∧ r' = 0) ∧ ∀ L, isTab A r → IsH A 10 r L → Ap L → (BadH L key ∧ e = 5) ∨ (¬ BadH L key ∧ e = 2 ∧ A.free.length < cnt 10 (putM L key v)) ∨ (¬ BadH L key ∧ e = 0 ∧ Ext A B ∧ AOk B ∧ A.free.length ≤ B.free.length + cnt 10 (putM L key v) ∧ IsH B 10 r' (putM L key v))
theorem isH_perm {A : Ar} : ∀ {k : Nat} {r : Int} {L M : List It}, IsH A k r L → IsH A k r M → L.Perm M
  | k, r, L, M, h, h' => by
    have e1 := h.size
    have e2 := h'.size
    rcases row_cases L with rfl | ⟨x, rfl⟩ | hl
    · have : M = [] := List.eq_nil_of_length_eq_zero (by simp at e1; omega)
      rw [this]
    · obtain ⟨z, rfl⟩ := List.length_eq_one_iff.1 (show M.length = 1 by simp at e1; omega)
      obtain ⟨g, q1⟩ := isH_one.1 h
      obtain ⟨g', q2⟩ := isH_one.1 h'
      rw [q1] at q2
      simp only [hN, Option.some.injEq, Node.mk.injEq] at q2
      have : x = z := by cases x; cases z; simp_all
      rw [this]
    · have hl' : 2 ≤ M.length := by omega
      cases k with
      | zero =>
        obtain ⟨y, m, q1, _, _, q3, _, _, q5, q6, q7⟩ := clash_node ((isH_clash hl).1 h) hl
        obtain ⟨y', m', q1', _, _, q3', _, _, q5', q6', q7'⟩ := clash_node ((isH_clash hl').1 h') hl'
        rw [q1] at q1'
        cases q1'
        have hlen : m.length = m'.length := by rw [q3.length_eq, q3'.length_eq]; omega
        have : m = m' := by
          apply List.ext_getElem?
          intro i
          by_cases hi : i < m.length
          · obtain ⟨x, hx⟩ := getSome (l := m) hi
            obtain ⟨z, hz⟩ := getSome (l := m') (i := i) (by omega)
            obtain ⟨g, p1⟩ := q6 i x hx
            obtain ⟨g', p2⟩ := q6' i z hz
            rw [p1] at p2
            simp only [hN, Option.some.injEq, Node.mk.injEq] at p2
            have : x = z := by cases x; cases z; simp_all
            rw [hx, hz, this]
          · rw [List.getElem?_eq_none (by omega), List.getElem?_eq_none (by omega)]
        exact q3.symm.trans (this ▸ q3')
      | succ k =>
        obtain ⟨y, q1, _, _, q4⟩ := trie_node h hl
        obtain ⟨y', q1', _, _, q4'⟩ := trie_node h' hl'
        rw [q1] at q1'
        cases q1'
        have e : ∀ i, i < 4 → (ofL (9 - k) i L).Perm (ofL (9 - k) i M) := fun i hi => isH_perm (q4 i hi) (q4' i hi)
        exact (part_perm (9 - k) L).symm.trans (((e 0 (by omega)).append ((e 1 (by omega)).append ((e 2 (by omega)).append (e 3 (by omega))))).trans (part_perm (9 - k) M))
theorem shL_perm {key : Int} {L M : List It} (p : L.Perm M) : shL key L = shL key M := (p.filter _).length_eq
theorem BadH.perm {key : Int} {L M : List It} (p : L.Perm M) (h : BadH L key) : BadH M key := by
  unfold BadH at h ⊢
  rw [← hasK_perm p, ← p.length_eq, ← shL_perm p]; exact h
theorem put_formH {A B : Ar} {r key v r' e : Int} {w w' : World} {L : List It} (hm : isTab A r → IsH A 10 r L ∧ Ap L) (h : CallH A r (fun s' r' e _ => PutJH A L key v s' r' e) (fun _ => False) w w' B r' e) : PutPH A r key v B r' e := by
  rcases h with ⟨h1, h2, h3, h4, _⟩ | ⟨h1, s', r0, e0, hJ, he, h3, h4⟩
  · refine ⟨fun _ => h2, fun _ => ⟨h3, h4⟩, fun L' h => ?_⟩
    rw [isTabB_yes h] at h1; cases h1
  · have hmap := (isTabB_iff A r).1 h1
    refine ⟨fun h => absurd hmap h, h3, fun L' _ hL' _ => ?_⟩
    have p := isH_perm (hm hmap).1 hL'
    have pm := putM_perm (key := key) (v := v) p
    rcases hJ.now with ⟨hb, h5⟩ | ⟨hb, h5, hg, hi⟩
    · exact .inl ⟨hb.perm p, by rw [he, h5]; rfl⟩
    · have hb' : ¬ BadH L' key := fun h => hb (h.perm p.symm)
      rw [h5, if_pos rfl] at he
      rw [← cnt_perm pm]
      by_cases h0 : s'.2 = 0
      · obtain ⟨rfl, rfl⟩ := h4 (by rw [he, h0])
        exact .inr (.inr ⟨hb', by rw [he, h0], hg.ext, hg.ok, hg.free, (hi h0).perm pm⟩)
      · have := hg.full rfl h0
        exact .inr (.inl ⟨hb', by rw [he, this.1], this.2⟩)
theorem c_hPut (A : Ar) (na fa : Option Addr) (nc fc : Nat) (hnc : A.nodes.length ≤ nc) (hfc : A.free.length ≤ fc) (r key v : Int) (hr : U64 r) (hkey : I64 key) (hv : I64 v) (M : Nat → Prop) (w : World) (hA : Ft M (fun u => ArR u na fa A) w) :
    FC Try.prog 30 [arV na fa nc fc A, .int .u64 r, .int .i64 key, .int .i64 v] w (fun u w' => Sub w w' ∧ ArH M w w' (PutPH A r key v) u) := by
  obtain ⟨L, hm⟩ := tabL A r
  refine FC.intro Try.func30 rfl Try.ntmps30 rfl ?_
  have S := Sub.refl w
  refine RC.seq ?_
  refine RC.region rfl ?_
  refine RL.box rfl rfl rfl (fun b_4 w_4 e_4 z_4 hb_4 s_4 => ?_)
  have ge_4 := S.le e_4
  have d_hA_b_4 := hA.neNew e_4
  have S := S.trans s_4
  have hA := hA.sub s_4
  have hb_4 : Has w_4 b_4 ([.slice na A.nodes.length nc, .slice fa A.free.length fc]) _ := hb_4
  refine RL.box rfl rfl rfl (fun b_5 w_5 e_5 z_5 hb_5 s_5 => ?_)
  have ge_5 := S.le e_5
  have n_4__5 := hb_4.ne e_5
  have d_hA_b_5 := hA.neNew e_5
  have S := S.trans s_5
  have hA := hA.sub s_5
  have hb_4 := hb_4.sub s_5
  refine RL.box rfl rfl rfl (fun b_6 w_6 e_6 z_6 hb_6 s_6 => ?_)
  have ge_6 := S.le e_6
  have n_4__6 := hb_4.ne e_6
  have n_5__6 := hb_5.ne e_6
  have d_hA_b_6 := hA.neNew e_6
  have S := S.trans s_6
  have hA := hA.sub s_6
  have hb_4 := hb_4.sub s_6
  have hb_5 := hb_5.sub s_6
  refine RL.box rfl rfl rfl (fun b_7 w_7 e_7 z_7 hb_7 s_7 => ?_)
  have ge_7 := S.le e_7
  have n_4__7 := hb_4.ne e_7
  have n_5__7 := hb_5.ne e_7
  have n_6__7 := hb_6.ne e_7
  have d_hA_b_7 := hA.neNew e_7
  have S := S.trans s_7
  have hA := hA.sub s_7
  have hb_4 := hb_4.sub s_7
  have hb_5 := hb_5.sub s_7
  have hb_6 := hb_6.sub s_7
  refine RL.alloc ze34 rfl rfl (fun b_8 w_8 e_8 z_8 hb_8 s_8 => ?_)
  have ge_8 := S.le e_8
  have n_4__8 := hb_4.ne e_8
  have n_5__8 := hb_5.ne e_8
  have n_6__8 := hb_6.ne e_8
  have n_7__8 := hb_7.ne e_8
  have d_hA_b_8 := hA.neNew e_8
  have S := S.trans s_8
  have hA := hA.sub s_8
  have hb_4 := hb_4.sub s_8
  have hb_5 := hb_5.sub s_8
  have hb_6 := hb_6.sub s_8
  have hb_7 := hb_7.sub s_8
  refine RL.ev (.assign rfl) rfl rfl ?_
  refine RL.ev (.assign rfl) rfl rfl ?_
  refine RL.nil (RC.back ?_)
  refine RC.seq ?_
  refine RC.region rfl ?_
  refine RL.ev (.loadR ([.slice na A.nodes.length nc, .slice fa A.free.length fc]) sh34 rfl hb_4.row rfl) rfl rfl ?_
  refine RL.ev (.load1 sh36 rfl (hb_5.cell rfl)) rfl rfl ?_
  refine RL.ev (.func (xs := []) (ys := [_, _, _]) rfl rfl) rfl rfl ?_
  refine RL.call rfl ok54 (c_hcall 55 ok55 [.pointer (some ⟨b_5, 0, none⟩), .pointer (some ⟨b_6, 0, none⟩), .pointer (some ⟨b_7, 0, none⟩)] A na fa nc fc hnc hfc r hr (fun _ => False) M (fun s' r' e _ => PutJH A L key v s' r' e) w_8 hA (fun _ h => h.elim) (fun hyes bf C w1 s1 hbf hF _ => FC.mono (c_put1T A r key v hr hkey hv L ((isTabB_iff A r).1 hyes).1 (hm ((isTabB_iff A r).1 hyes)).1 (hm ((isTabB_iff A r).1 hyes)).2 (isTab_len ((isTabB_iff A r).1 hyes) (hm ((isTabB_iff A r).1 hyes)).1) bf b_5 b_6 b_7 C w1 hF (hb_5.sub s1) (hb_6.sub s1) (hb_7.sub s1)) (fun u w2 ⟨s', r', e, C', h1, h2, h3, h4, h5, h6⟩ => ⟨s', r', e, C', h1, h2, h3, h4.mono fun k _ e => .inl e, h5, ⟨fun _ h => h.elim, fun _ _ => h6⟩⟩))) rfl rfl ?_
  rintro _ w1 ⟨ag, na', fa', nc', fc', B, r', e, M', rfl, hu, hnc', hfc', hA', hup, hcp⟩
  have dB8 : ∀ k, M' k → k ≠ b_8 := (fun k hk e => hup.not hb_8.lt (fun e' => d_hA_b_8 _ e' rfl) (e ▸ hk))
  have hup := hup.le S.size
  have S := S.trans ag.sub
  have hA := hA.sub ag.sub
  have hb_4 := hb_4.sub ag.sub
  have hb_5 := hb_5.sub ag.sub
  have hb_6 := hb_6.sub ag.sub
  have hb_7 := hb_7.sub ag.sub
  have hb_8 := hb_8.sub ag.sub
  have hpp := put_formH hm hcp
  refine RL.ev (.extract rfl rfl) rfl rfl ?_
  refine RL.ev (.extract rfl rfl) rfl rfl ?_
  refine RL.ev (.extract rfl rfl) rfl rfl ?_
  refine RL.store sh34 rfl rfl rfl hb_8 (by exact Nat.le_of_ble_eq_true rfl) (by rfl) rfl (fun w3 z3 hb_8 a3 => ?_)
  have S := S.upd a3 ge_8
  have hb_4 := hb_4.upd a3 n_4__8
  have hb_5 := hb_5.upd a3 n_5__8
  have hb_6 := hb_6.upd a3 n_6__8
  have hb_7 := hb_7.upd a3 n_7__8
  have hA' := hA'.updD a3 dB8
  have hb_8 : Has w3 b_8 ([.slice na' B.nodes.length nc', .slice fa' B.free.length fc']) _ := hb_8.now (by kernel_rfl)
  refine RL.ev (.assign rfl) rfl rfl ?_
  refine RL.ev (.assign rfl) rfl rfl ?_
  refine RL.nil (RC.back ?_)
  refine RC.done (rs := [.cell 8 34, .tmp 9, .tmp 10]) (vs := [_, _, _]) rfl rfl ⟨⟨_, rfl, .inr ⟨[.slice na' B.nodes.length nc', .slice fa' B.free.length fc'], sh34, hb_8.row, rfl⟩⟩, rfl, rfl, trivial⟩ ?_
  -- end 1
  exact ⟨S, na', fa', nc', fc', B, r', e, M', rfl, hu, hnc', hfc', hA', hup, hpp⟩
def DelJH (A : Ar) (L : List It) (key : Int) (s' : St) (r' e : Int) : Prop := (hasK L key = false ∧ e = 3) ∨ (hasK L key = true ∧ e = 0 ∧ Gs (cnt 10 (delL L key)) (A, 0) s' ∧ (s'.2 = 0 → IsH s'.1 10 r' (delL L key)))
theorem c_del1T (A : Ar) (r key : Int) (hr : U64 r) (hkey : I64 key) (L : List It) (hA : AOk A) (hL : IsH A 10 r L) (hap : Ap L) (hl : L.length ≤ 200) (bf b4 b5 : Nat) (C : Nat → Prop) (w : World) (hF : Ft C (Ho bf (A, 0) C) w)
    (m4 : Has w b4 [.int .u64 r] 36) (m5 : Has w b5 [.int .i64 key] 2) :
    FC Try.prog 65 [.pointer (some ⟨bf, 0, none⟩), .pointer (some ⟨b4, 0, none⟩), .pointer (some ⟨b5, 0, none⟩)] w (fun u w2 => ∃ s' r' e C', u = .tuple #[.int .u64 r', .int .i64 e] ∧ U64 r' ∧ Ft C' (Ho bf s' C') w2 ∧ Agr (· = bf) w w2 ∧ Up C w C' ∧ DelJH A L key s' r' e) := by
  refine FC.intro Try.func65 rfl Try.ntmps65 rfl ?_
  have G : Agr (· = bf) w w := Agr.refl _ _
  refine RC.seq ?_
  refine RC.region rfl ?_
  refine RL.ev (.assign rfl) rfl rfl ?_
  refine RL.ev (.assign rfl) rfl rfl ?_
  refine RL.nil (RC.back ?_)
  refine RC.seq ?_
  refine RC.seq ?_
  refine RC.region rfl ?_
  refine RL.ev (.move rfl) rfl rfl ?_
  refine RL.ev (.load1 sh36 rfl (m4.cell rfl)) rfl rfl ?_
  refine RL.ev (.load1 sh2 rfl (m5.cell rfl)) rfl rfl ?_
  refine RL.call rfl ok56 (c_hfind bf (A, 0) C r key hr L hL w hF) rfl rfl ?_
  rintro _ w1 ⟨s2, y, rfl, hyo, hfp⟩
  have G := G.trans s2.agr
  have hF := hF.sub s2
  have m4 := m4.sub s2
  have m5 := m5.sub s2
  have hfk := findH_kind hfp
  refine RL.ev (.fieldV Try.underlying97 rfl sh3 rfl rfl) rfl rfl ?_
  refine RL.ev (.bin rfl rfl rfl) rfl rfl ?_
  refine RL.nil (RC.back ?_)
  refine RC.cond_dec rfl (fun h3 => ?_) (fun h3 => ?_)
  ·
    have q3 : hasK L key = false := hfk.2.1 h3
    refine RC.seq ?_
    refine RC.region rfl ?_
    refine RL.ev (.assign rfl) rfl rfl ?_
    refine RL.ev (.assign rfl) rfl rfl ?_
    refine RL.nil (RC.back ?_)
    refine RC.done (rs := [.tmp 4, .tmp 5]) (vs := [_, _]) rfl rfl ⟨rfl, rfl, trivial⟩ ?_
    -- end 1
    exact ⟨(A, 0), 0, 3, C, rfl, zu0, hF, G, Up.refl _ _, .inl ⟨q3, rfl⟩⟩
  ·
    have q3 : hasK L key = true := hfk.1.1 h3
    refine RC.skip (RC.back ?_)
    refine RC.seq ?_
    refine RC.region rfl ?_
    refine RL.ev (.move rfl) rfl rfl ?_
    refine RL.ev (.load1 sh36 rfl (m4.cell rfl)) rfl rfl ?_
    refine RL.ev (.load1 sh2 rfl (m5.cell rfl)) rfl rfl ?_
    refine RL.call rfl ok66 (c_hdel bf key hkey A 10 0 r L (A, 0) C w1 (Nat.le_refl _) rfl hL hap q3 (by omega) (Ext.refl _) hA hr hF) rfl rfl ?_
    rintro _ w4 ⟨s1, C1, hg, ⟨r1, rfl, hu1, hi⟩, hF1, ag, up⟩
    have up := up.le G.size
    have G := G.trans ag
    refine RL.ev (.assign rfl) rfl rfl ?_
    refine RL.ev (.assign rfl) rfl rfl ?_
    refine RL.nil (RC.back ?_)
    refine RC.done (rs := [.tmp 4, .tmp 5]) (vs := [_, _]) rfl rfl ⟨rfl, rfl, trivial⟩ ?_
    -- end 2
    exact ⟨s1, r1, 0, C1, rfl, hu1, hF1, G, up, .inr ⟨q3, rfl, hg.1, hi⟩⟩
def DelPH (A : Ar) (r key : Int) (B : Ar) (r' e : Int) : Prop :=
  (¬ isTab A r → e = 1) ∧ (¬ e = 0 → B = ar0 ∧ r' = 0) ∧ ∀ L, isTab A r → IsH A 10 r L → Ap L → (hasK L key = false ∧ e = 3) ∨ (hasK L key = true ∧ e = 2 ∧ A.free.length < cnt 10 (delL L key)) ∨ (hasK L key = true ∧ e = 0 ∧ Ext A B ∧ AOk B ∧ A.free.length ≤ B.free.length + cnt 10 (delL L key) ∧ IsH B 10 r' (delL L key))
theorem del_formH {A B : Ar} {r key r' e : Int} {w w' : World} {L : List It} (hm : isTab A r → IsH A 10 r L ∧ Ap L) (h : CallH A r (fun s' r' e _ => DelJH A L key s' r' e) (fun _ => False) w w' B r' e) : DelPH A r key B r' e := by
  rcases h with ⟨h1, h2, h3, h4, _⟩ | ⟨h1, s', r0, e0, hJ, he, h3, h4⟩
  · refine ⟨fun _ => h2, fun _ => ⟨h3, h4⟩, fun L' h => ?_⟩
    rw [isTabB_yes h] at h1; cases h1
  · have hmap := (isTabB_iff A r).1 h1
    refine ⟨fun h => absurd hmap h, h3, fun L' _ hL' _ => ?_⟩
    have p := isH_perm (hm hmap).1 hL'
    have pd := delL_perm (key := key) p
    rw [← hasK_perm p, ← cnt_perm pd]
    rcases hJ.now with ⟨hb, h5⟩ | ⟨hb, h5, hg, hi⟩
    · exact .inl ⟨hb, by rw [he, h5]; rfl⟩
    · rw [h5, if_pos rfl] at he
      by_cases h0 : s'.2 = 0
      · obtain ⟨rfl, rfl⟩ := h4 (by rw [he, h0])
        exact .inr (.inr ⟨hb, by rw [he, h0], hg.ext, hg.ok, hg.free, (hi h0).perm pd⟩)
      · have := hg.full rfl h0
        exact .inr (.inl ⟨hb, by rw [he, this.1], this.2⟩)
theorem c_hDel (A : Ar) (na fa : Option Addr) (nc fc : Nat) (hnc : A.nodes.length ≤ nc) (hfc : A.free.length ≤ fc) (r key : Int) (hr : U64 r) (hkey : I64 key) (M : Nat → Prop) (w : World) (hA : Ft M (fun u => ArR u na fa A) w) :
    FC Try.prog 38 [arV na fa nc fc A, .int .u64 r, .int .i64 key] w (fun u w' => Sub w w' ∧ ArH M w w' (DelPH A r key) u) := by
  obtain ⟨L, hm⟩ := tabL A r
  refine FC.intro Try.func38 rfl Try.ntmps38 rfl ?_
  have S := Sub.refl w
  refine RC.seq ?_
  refine RC.region rfl ?_
  refine RL.box rfl rfl rfl (fun b_3 w_3 e_3 z_3 hb_3 s_3 => ?_)
  have ge_3 := S.le e_3
  have d_hA_b_3 := hA.neNew e_3
  have S := S.trans s_3
  have hA := hA.sub s_3
  have hb_3 : Has w_3 b_3 ([.slice na A.nodes.length nc, .slice fa A.free.length fc]) _ := hb_3
  refine RL.box rfl rfl rfl (fun b_4 w_4 e_4 z_4 hb_4 s_4 => ?_)
  have ge_4 := S.le e_4
  have n_3__4 := hb_3.ne e_4
  have d_hA_b_4 := hA.neNew e_4
  have S := S.trans s_4
  have hA := hA.sub s_4
  have hb_3 := hb_3.sub s_4
  refine RL.box rfl rfl rfl (fun b_5 w_5 e_5 z_5 hb_5 s_5 => ?_)
  have ge_5 := S.le e_5
  have n_3__5 := hb_3.ne e_5
  have n_4__5 := hb_4.ne e_5
  have d_hA_b_5 := hA.neNew e_5
  have S := S.trans s_5
  have hA := hA.sub s_5
  have hb_3 := hb_3.sub s_5
  have hb_4 := hb_4.sub s_5
  refine RL.alloc ze34 rfl rfl (fun b_6 w_6 e_6 z_6 hb_6 s_6 => ?_)
  have ge_6 := S.le e_6
  have n_3__6 := hb_3.ne e_6
  have n_4__6 := hb_4.ne e_6
  have n_5__6 := hb_5.ne e_6
  have d_hA_b_6 := hA.neNew e_6
  have S := S.trans s_6
  have hA := hA.sub s_6
  have hb_3 := hb_3.sub s_6
  have hb_4 := hb_4.sub s_6
  have hb_5 := hb_5.sub s_6
  refine RL.ev (.assign rfl) rfl rfl ?_
  refine RL.ev (.assign rfl) rfl rfl ?_
  refine RL.nil (RC.back ?_)
  refine RC.seq ?_
  refine RC.region rfl ?_
  refine RL.ev (.loadR ([.slice na A.nodes.length nc, .slice fa A.free.length fc]) sh34 rfl hb_3.row rfl) rfl rfl ?_
  refine RL.ev (.load1 sh36 rfl (hb_4.cell rfl)) rfl rfl ?_
  refine RL.ev (.func (xs := []) (ys := [_, _]) rfl rfl) rfl rfl ?_
  refine RL.call rfl ok54 (c_hcall 65 ok65 [.pointer (some ⟨b_4, 0, none⟩), .pointer (some ⟨b_5, 0, none⟩)] A na fa nc fc hnc hfc r hr (fun _ => False) M (fun s' r' e _ => DelJH A L key s' r' e) w_6 hA (fun _ h => h.elim) (fun hyes bf C w1 s1 hbf hF _ => FC.mono (c_del1T A r key hr hkey L ((isTabB_iff A r).1 hyes).1 (hm ((isTabB_iff A r).1 hyes)).1 (hm ((isTabB_iff A r).1 hyes)).2 (isTab_len ((isTabB_iff A r).1 hyes) (hm ((isTabB_iff A r).1 hyes)).1) bf b_4 b_5 C w1 hF (hb_4.sub s1) (hb_5.sub s1)) (fun u w2 ⟨s', r', e, C', h1, h2, h3, h4, h5, h6⟩ => ⟨s', r', e, C', h1, h2, h3, h4.mono fun k _ e => .inl e, h5, ⟨fun _ h => h.elim, fun _ _ => h6⟩⟩))) rfl rfl ?_
  rintro _ w1 ⟨ag, na', fa', nc', fc', B, r', e, M', rfl, hu, hnc', hfc', hA', hup, hcp⟩
  have dB6 : ∀ k, M' k → k ≠ b_6 := (fun k hk e => hup.not hb_6.lt (fun e' => d_hA_b_6 _ e' rfl) (e ▸ hk))
  have hup := hup.le S.size
  have S := S.trans ag.sub
  have hA := hA.sub ag.sub
  have hb_3 := hb_3.sub ag.sub
  have hb_4 := hb_4.sub ag.sub
  have hb_5 := hb_5.sub ag.sub
  have hb_6 := hb_6.sub ag.sub
  have hpp := del_formH hm hcp
  refine RL.ev (.extract rfl rfl) rfl rfl ?_
  refine RL.ev (.extract rfl rfl) rfl rfl ?_
  refine RL.ev (.extract rfl rfl) rfl rfl ?_
  refine RL.store sh34 rfl rfl rfl hb_6 (by exact Nat.le_of_ble_eq_true rfl) (by rfl) rfl (fun w3 z3 hb_6 a3 => ?_)
  have S := S.upd a3 ge_6
  have hb_3 := hb_3.upd a3 n_3__6
  have hb_4 := hb_4.upd a3 n_4__6
  have hb_5 := hb_5.upd a3 n_5__6
  have hA' := hA'.updD a3 dB6
  have hb_6 : Has w3 b_6 ([.slice na' B.nodes.length nc', .slice fa' B.free.length fc']) _ := hb_6.now (by kernel_rfl)
  refine RL.ev (.assign rfl) rfl rfl ?_
  refine RL.ev (.assign rfl) rfl rfl ?_
  refine RL.nil (RC.back ?_)
  refine RC.done (rs := [.cell 6 34, .tmp 7, .tmp 8]) (vs := [_, _, _]) rfl rfl ⟨⟨_, rfl, .inr ⟨[.slice na' B.nodes.length nc', .slice fa' B.free.length fc'], sh34, hb_6.row, rfl⟩⟩, rfl, rfl, trivial⟩ ?_
  -- end 1
  exact ⟨S, na', fa', nc', fc', B, r', e, M', rfl, hu, hnc', hfc', hA', hup, hpp⟩
def GetPH (A : Ar) (r key x e : Int) : Prop := (¬ isTab A r → x = 0 ∧ e = 1) ∧ ∀ L, isTab A r → IsH A 10 r L → Ap L → (∃ z ∈ L, z.k = key ∧ x = z.v ∧ e = 0) ∨ (hasK L key = false ∧ x = 0 ∧ e = 3)
theorem c_hGet (A : Ar) (na fa : Option Addr) (nc fc : Nat) (hnc : A.nodes.length ≤ nc) (hfc : A.free.length ≤ fc) (r key : Int) (hr : U64 r) (w : World) (hA : ArR w na fa A) :
    FC Try.prog 35 [arV na fa nc fc A, .int .u64 r, .int .i64 key] w (fun u w' => Sub w w' ∧ ∃ x e, u = .tuple #[.int .i64 x, .int .i64 e] ∧ GetPH A r key x e) := by
  have hN := hA.nodes
  have hFr := hA.free
  have hG : Ft (· < w.heap.size) (fun u => ArR u na fa A) w := Ft.of_sub fun u s => hA.sub s
  obtain ⟨L, hm⟩ := tabL A r
  refine FC.intro Try.func35 rfl Try.ntmps35 rfl ?_
  have S := Sub.refl w
  refine RC.seq ?_
  refine RC.region rfl ?_
  refine RL.box rfl rfl rfl (fun b_3 w_3 e_3 z_3 hb_3 s_3 => ?_)
  have ge_3 := S.le e_3
  have S := S.trans s_3
  have hb_3 : Has w_3 b_3 ([.slice na A.nodes.length nc, .slice fa A.free.length fc]) _ := hb_3
  refine RL.ev (.assign rfl) rfl rfl ?_
  refine RL.ev (.assign rfl) rfl rfl ?_
  refine RL.nil (RC.back ?_)
  refine RC.seq ?_
  refine RC.seq ?_
  refine RC.region rfl ?_
  refine RL.ev (.loadR ([.slice na A.nodes.length nc, .slice fa A.free.length fc]) sh34 rfl hb_3.row rfl) rfl rfl ?_
  refine RL.ev (.move rfl) rfl rfl ?_
  refine RL.call rfl ok42 (c_hRight A na fa nc fc hnc hfc r hr w_3 (hA.sub S)) rfl rfl ?_
  rintro _ w1 ⟨rfl, s2⟩
  have S := S.trans s2
  have hb_3 := hb_3.sub s2
  refine RL.ev (.not rfl) rfl rfl ?_
  refine RL.nil (RC.back ?_)
  refine RC.cond rfl (fun h3 => ?_) (fun h3 => ?_)
  ·
    have hno : ¬ isTab A r := (fun h => by have h2 := h3; rw [isTabB_yes h] at h2; cases h2)
    refine RC.seq ?_
    refine RC.region rfl ?_
    refine RL.ev (.assign rfl) rfl rfl ?_
    refine RL.ev (.assign rfl) rfl rfl ?_
    refine RL.nil (RC.back ?_)
    refine RC.done (rs := [.tmp 6, .tmp 7]) (vs := [_, _]) rfl rfl ⟨rfl, rfl, trivial⟩ ?_
    -- end 1
    exact ⟨S, 0, 1, rfl, fun _ => ⟨rfl, rfl⟩, fun L' h => absurd h hno⟩
  ·
    have hyes : isTab A r := (isTabB_iff A r).1 (by simpa using h3)
    obtain ⟨hL, hap⟩ := hm hyes
    refine RC.skip (RC.back ?_)
    refine RC.seq ?_
    refine RC.region rfl ?_
    refine RL.ev (.loadR ([.slice na A.nodes.length nc, .slice fa A.free.length fc]) sh34 rfl hb_3.row rfl) rfl rfl ?_
    refine RL.ev (.buildS ze108 pl108 rfl rfl) rfl rfl ?_
    refine RL.box rfl rfl rfl (fun b_16 w_16 e_16 z_16 hb_16 s_16 => ?_)
    have ge_16 := S.le e_16
    have n_3__16 := hb_3.ne e_16
    have S := S.trans s_16
    have hb_3 := hb_3.sub s_16
    have hb_16 : Has w_16 b_16 (wvC na fa nc fc A 0) 108 := hb_16
    have hG1 := hG.sub S
    have hF := FoG.ft (s := (A, 0)) hb_16 hnc hfc hG1 (fun e => by have := ge_16; omega)
    refine RL.ev (.assign rfl) rfl rfl ?_
    refine RL.nil (RC.back ?_)
    refine RC.seq ?_
    refine RC.region rfl ?_
    refine RL.ev (.move rfl) rfl rfl ?_
    refine RL.ev (.move rfl) rfl rfl ?_
    refine RL.ev (.move rfl) rfl rfl ?_
    refine RL.call rfl ok56 (c_hfind b_16 (A, 0) _ r key hr L hL w_16 hF) rfl rfl ?_
    rintro _ w4 ⟨s5, y, rfl, hyo, hfp⟩
    have S := S.trans s5
    have hb_3 := hb_3.sub s5
    have hF := hF.sub s5
    have hfk := findH_kind hfp
    refine RL.alloc ze97 rfl rfl (fun b_9 w_9 e_9 z_9 hb_9 s_9 => ?_)
    have ge_9 := S.le e_9
    have n_3__9 := hb_3.ne e_9
    have d_hF_b_9 := hF.neNew e_9
    have S := S.trans s_9
    have hb_3 := hb_3.sub s_9
    have hF := hF.sub s_9
    refine RL.store sh97 rfl rfl rfl hb_9 (by exact Nat.le_of_ble_eq_true rfl) (by rfl) rfl (fun w6 z6 hb_9 a6 => ?_)
    have S := S.upd a6 ge_9
    have hb_3 := hb_3.upd a6 n_3__9
    have hF := hF.updD a6 d_hF_b_9
    have hb_9 : Has w6 b_9 (y.cells) _ := hb_9.now (by kernel_rfl)
    refine RL.nil (RC.back ?_)
    refine RC.seq ?_
    refine RC.seq ?_
    refine RC.region rfl ?_
    refine RL.ev (.field0 fo97_0 rfl) rfl rfl ?_
    refine RL.ev (.load1 sh3 rfl (hb_9.cell rfl)) rfl rfl ?_
    refine RL.ev (.bin rfl rfl rfl) rfl rfl ?_
    refine RL.nil (RC.back ?_)
    refine RC.cond_dec rfl (fun h7 => ?_) (fun h7 => ?_)
    ·
      have q := h7
      have q3 : hasK L key = false := hfk.2.1 q
      refine RC.seq ?_
      refine RC.region rfl ?_
      refine RL.ev (.assign rfl) rfl rfl ?_
      refine RL.ev (.assign rfl) rfl rfl ?_
      refine RL.nil (RC.back ?_)
      refine RC.done (rs := [.tmp 6, .tmp 7]) (vs := [_, _]) rfl rfl ⟨rfl, rfl, trivial⟩ ?_
      -- end 2
      exact ⟨S, 0, 3, rfl, fun h => absurd hyes h, fun L' _ hL' _ => .inr ⟨by rw [← hasK_perm (isH_perm hL hL')]; exact q3, rfl, rfl⟩⟩
    ·
      have q := h7
      have q3 : hasK L key = true := hfk.1.1 q
      refine RC.skip (RC.back ?_)
      refine RC.seq ?_
      refine RC.region rfl ?_
      refine RL.ev (.field0 fo97_3 rfl) rfl rfl ?_
      refine RL.ev (.load1 sh2 rfl (hb_9.cell rfl)) rfl rfl ?_
      refine RL.ev (.assign rfl) rfl rfl ?_
      refine RL.ev (.assign rfl) rfl rfl ?_
      refine RL.nil (RC.back ?_)
      refine RC.done (rs := [.tmp 6, .tmp 7]) (vs := [_, _]) rfl rfl ⟨rfl, rfl, trivial⟩ ?_
      -- end 3
      exact ⟨S, y.v, 0, rfl, fun h => absurd hyes h, fun L' _ hL' _ => .inl (by rcases hfp with ⟨z, h1, h2, g, rfl⟩ | ⟨h1, rfl⟩; exact ⟨z, (isH_perm hL hL').mem_iff.1 h1, h2, rfl, rfl⟩; exact absurd rfl q)⟩
end Go.Proofs.Ytbfjobmebkhblaa
set_option linter.unusedVariables false
set_option linter.unusedSimpArgs false
namespace Go.Proofs.Ytbfjobmebkhblaa
open Go Go.XL
theorem rem_hash (key : Int) : Value.int .u64 (((rankOf key).toNat : Int).tmod 1048576) = .int .u64 (hashOf key : Int) := by
  congr 1
theorem div4 (key : Int) (i : Nat) : ((hashOf key / 4 ^ i : Nat) : Int).tdiv 4 = ((hashOf key / 4 ^ (i + 1) : Nat) : Int) := by
  rw [Nat.pow_succ, ← Nat.div_div_eq_div_mul]
  rw [Int.tdiv_eq_ediv_of_nonneg (Int.natCast_nonneg _)]
  rfl
theorem c_refDigit (key : Int) (lv : Nat) (hlv : lv ≤ 10) (w : World) : FC Try.prog 51 [.int .i64 key, .int .i64 (lv : Int)] w (Val (.int .i64 (dig key lv : Int)) w) := by
  have hh := hashOf_lt key
  refine FC.intro Try.func51 rfl Try.ntmps51 rfl ?_
  have S := Sub.refl w
  refine RC.seq ?_
  refine RC.region rfl ?_
  refine RL.ev (.assign rfl) rfl rfl ?_
  refine RL.nil (RC.back ?_)
  refine RC.seq ?_
  refine RC.region rfl ?_
  refine RL.ev (.move rfl) rfl rfl ?_
  refine RL.call rfl ok44 (c_refRank key w) rfl rfl ?_
  rintro _ w1 ⟨rfl, s2⟩
  have S := S.trans s2
  refine RL.ev (.as (v' := .int .u64 ((hashOf key / 4 ^ 0 : Nat) : Int)) (.rem rfl rfl (by decide)) (by rw [Nat.pow_zero, Nat.div_one]; exact rem_hash key)) rfl rfl ?_
  refine RL.ev (.assign rfl) rfl rfl ?_
  refine RL.nil (RC.back ?_)
  refine RC.seq ?_
  refine RC.seq ?_
  refine RC.region rfl ?_
  refine RL.ev (.assign rfl) rfl rfl ?_
  refine RL.nil (RC.back ?_)
  refine RC.block ?_
  refine RC.loop (α := Nat) (fun i => [(1, .int .i64 (lv : Int)), (5, .int .u64 ((hashOf key / 4 ^ i : Nat) : Int)), (6, .int .i64 (i : Int))]) (fun i w3 => i ≤ lv ∧ Sub w w3) (fun i => lv - i) 0 (keep_of (by repeat (first | exact trivial | refine And.intro rfl ?_))) (⟨Nat.zero_le _, S⟩) (fun i w3 hJ => ?_)
  obtain ⟨hi, S⟩ := hJ; have hq : hashOf key / 4 ^ i ≤ hashOf key := Nat.div_le_self _ _
  refine RC.seq ?_
  refine RC.seq ?_
  refine RC.region rfl ?_
  refine RL.ev (.move rfl) rfl rfl ?_
  refine RL.ev (.move rfl) rfl rfl ?_
  refine RL.ev (.bin rfl rfl rfl) rfl rfl ?_
  refine RL.nil (RC.back ?_)
  refine RC.cond_dec rfl (fun h4 => ?_) (fun h4 => ?_)
  ·
    refine RC.skip (RC.back ?_)
    refine RC.seq ?_
    refine RC.block ?_
    refine RC.region rfl ?_
    refine RL.ev (.move rfl) rfl rfl ?_
    refine RL.ev (.as (v' := .int .u64 ((hashOf key / 4 ^ (i + 1) : Nat) : Int)) (.quo rfl rfl (by decide)) (by rw [← div4]; first | rfl | exact congrArg _ (wrap_u64 (by rw [div4]; exact ⟨Int.natCast_nonneg _, Int.le_trans (Int.ofNat_le.2 (Nat.div_le_self (hashOf key) _)) (by omega)⟩)))) rfl rfl ?_
    refine RL.ev (.assign rfl) rfl rfl ?_
    refine RL.nil (RC.back ?_)
    refine RC.region rfl ?_
    refine RL.ev (.move rfl) rfl rfl ?_
    refine RL.ev (.as (.bin rfl rfl rfl) (wi64 (y := ((i + 1 : Nat) : Int)) (by omega) (by omega))) rfl rfl ?_
    refine RL.ev (.assign rfl) rfl rfl ?_
    exact RL.nil (fun a ka => ⟨i + 1, ⟨by omega, S⟩, by omega, ka.keep (keep_of (by repeat (first | exact trivial | refine And.intro rfl ?_)))⟩)
  ·
    obtain rfl : i = lv := (by omega)
    have hdlt := dig_lt key i
    refine RC.exit rfl (RC.back ?_)
    refine RC.seq ?_
    refine RC.region rfl ?_
    refine RL.ev (.move rfl) rfl rfl ?_
    refine RL.ev (.as (v' := .int .u64 (dig key i : Int)) (.rem rfl rfl (by decide)) (by first | rfl | (congr 1))) rfl rfl ?_
    refine RL.ev (.as (.conv i35 i3 rfl) (wi64 (y := (dig key i : Int)) (by first | rfl | (have := dig_lt key i; omega)) (by omega))) rfl rfl ?_
    refine RL.ev (.assign rfl) rfl rfl ?_
    refine RL.nil (RC.back ?_)
    refine RC.done (rs := [.tmp 4]) (vs := [_]) rfl rfl ⟨rfl, trivial⟩ ?_
    -- end 1
    exact ⟨rfl, S⟩
theorem c_refOf9 (l : List It) (a : Option Addr) (c m : Nat) (hm : m = l.length) (lv d : Nat) (hlv : lv ≤ 10) (w : World) (hl : Sl w a 2 (l.map It.cells)) (hb : l.length ≤ 1000000) :
    FC Try.prog 62 [.slice a m c, .int .i64 (lv : Int), .int .i64 (d : Int)] w (fun u w' => ∃ a' c', u = .slice a' ((ofL lv d l).map It.cells).length c' ∧ Ows w.heap.size w' 29 2 (.slice a' ((ofL lv d l).map It.cells).length c') ((ofL lv d l).map It.cells) ∧ Sub w w') := by
  subst hm
  refine FC.intro Try.func62 rfl Try.ntmps62 rfl ?_
  have S := Sub.refl w
  refine RC.seq ?_
  refine RC.region rfl ?_
  refine RL.ev (.assign rfl) rfl rfl ?_
  refine RL.nil (RC.back ?_)
  refine RC.seq ?_
  refine RC.region rfl ?_
  refine RL.buildSlice0 sl26 rfl rfl (fun b_10 w_10 e_10 z_10 hb_10 s_10 => ?_)
  have ge_10 := S.le e_10
  have S := S.trans s_10
  refine RL.ev (.assign rfl) rfl rfl ?_
  refine RL.nil (RC.back ?_)
  refine RC.seq ?_
  refine RC.seq ?_
  refine RC.region rfl ?_
  refine RL.ev (.move rfl) rfl rfl ?_
  refine RL.ev (.len sl26 rfl) rfl rfl ?_
  refine RL.ev (.move rfl) rfl rfl ?_
  refine RL.nil (RC.back ?_)
  refine RC.block ?_
  refine RC.loop (α := Nat × Option Addr × Nat × Nat) (fun x => [(1, .int .i64 (lv : Int)), (2, .int .i64 (d : Int)), (7, .slice x.2.1 x.2.2.1 x.2.2.2), (11, .slice a l.length c), (12, .int .i64 (l.length : Int)), (13, .int .i64 (x.1 : Int))]) (fun x w1 => x.1 ≤ l.length ∧ Ows w.heap.size w1 29 2 (.slice x.2.1 x.2.2.1 x.2.2.2) ((ofL lv d (l.take x.1)).map It.cells) ∧ Sub w w1) (fun x => l.length - x.1) (0, some ⟨b_10, 0, none⟩, 0, 0) (keep_of (by repeat (first | exact trivial | refine And.intro rfl ?_))) (⟨Nat.zero_le _, Ows.lit0 hb_10 (by omega), S⟩) (fun x w1 hJ => ?_)
  obtain ⟨i, ao, mo, co⟩ := x; obtain ⟨hi, o, S⟩ := hJ; simp only [] at hi o; obtain rfl := o.sl.2; have szB := S.size; have hdl : (ofL lv d (l.take i)).length ≤ i := Nat.le_trans (ofL_len _ _ _) (by rw [List.length_take]; omega)
  refine RC.seq ?_
  refine RC.region rfl ?_
  refine RL.ev (.bin rfl rfl rfl) rfl rfl ?_
  refine RL.nil (RC.back ?_)
  refine RC.seq ?_
  refine RC.cond_dec rfl (fun h2 => ?_) (fun h2 => ?_)
  ·
    obtain ⟨x, hx⟩ := getSome (l := l) (i := i) (by omega)
    refine RC.skip (RC.back ?_)
    refine RC.seq ?_
    refine RC.block ?_
    refine RC.seq ?_
    refine RC.region rfl ?_
    refine RL.ev (.indexS sl26 rfl rfl (by omega) (hl.is (i := 0) (by simp only [List.length_map, List.length_cons, List.length_nil]; omega))) rfl rfl ?_
    refine RL.ev (.loadR (x.cells) sh29 rfl ((hl.sub S).rowAt (enc := It.cells) (i := i) hx) rfl) rfl rfl ?_
    refine RL.alloc ze29 rfl rfl (fun b_9 w_9 e_9 z_9 hb_9 s_9 => ?_)
    have ge_9 := S.le e_9
    have d_o_b_9 := o.neNew e_9
    have S := S.trans s_9
    have o := o.sub s_9
    have szB := Nat.le_trans szB s_9.size
    refine RL.store sh29 rfl rfl rfl hb_9 (by exact Nat.le_of_ble_eq_true rfl) (by rfl) rfl (fun w3 z3 hb_9 a3 => ?_)
    have S := S.upd a3 ge_9
    have o := o.updD a3 d_o_b_9
    have szB := Nat.le_trans szB a3.size
    have hb_9 : Has w3 b_9 (x.cells) _ := hb_9.now (by kernel_rfl)
    refine RL.nil (RC.back ?_)
    refine RC.seq ?_
    refine RC.region rfl ?_
    refine RL.ev (.field0 fo29_0 rfl) rfl rfl ?_
    refine RL.ev (.load1 sh2 rfl (hb_9.cell rfl)) rfl rfl ?_
    refine RL.ev (.move rfl) rfl rfl ?_
    refine RL.call rfl ok51 (c_refDigit x.k lv hlv w3) rfl rfl ?_
    rintro _ w4 ⟨rfl, s5⟩
    have S := S.trans s5
    have o := o.sub s5
    have szB := Nat.le_trans szB s5.size
    have hb_9 := hb_9.sub s5
    refine RL.ev (.move rfl) rfl rfl ?_
    refine RL.ev (.bin rfl rfl rfl) rfl rfl ?_
    refine RL.nil (RC.back ?_)
    refine RC.cond_dec rfl (fun h6 => ?_) (fun h6 => ?_)
    ·
      have hk : dig x.k lv = d := (by have := h6; omega)
      have hnext : ofL lv d (l.take (i + 1)) = ofL lv d (l.take i) ++ [x] := (by unfold ofL; rw [filter_take hx, if_pos (decide_eq_true hk)])
      refine RC.region rfl ?_
      refine RL.ev (.move rfl) rfl rfl ?_
      refine RL.ev (.loadR (x.cells) sh29 rfl hb_9.row rfl) rfl rfl ?_
      refine RL.buildSlice1 sl26 _ ze29 rfl rfl rfl rfl rfl rfl rfl (fun b_25 w_25 e_25 z_25 hb_25 s_25 => ?_)
      have ge_25 := S.le e_25
      have n_9__25 := hb_9.ne e_25
      have d_o_b_25 := o.neNew e_25
      have S := S.trans s_25
      have o := o.sub s_25
      have szB := Nat.le_trans szB s_25.size
      have hb_9 := hb_9.sub s_25
      have sz_26 := S.size
      have ltb_9_26 := hb_9.lt
      have ltb_25_26 := hb_25.lt
      refine RL.append2 (base := w.heap.size) (rows := (ofL lv d (l.take i)).map It.cells) (news := [_]) sl26 ze29 rfl rfl rfl rfl (.inl o) (Has.slOne hb_25) rfl (by intro r hr; rw [List.mem_singleton] at hr; subst hr; rfl) rfl (by (try simp only [List.length_map, List.length_nil, List.length_append, List.length_cons]); omega) (by (try simp only [List.length_map, List.length_nil, List.length_append, List.length_cons]); omega) (by omega) rfl rfl (fun v_26 w_26 hc_26 ho_26 ag_26 ob_26 => ?_)
      have o26 := ho_26 (.inl (by simp))
      rw [show _ ++ [_] = ((ofL lv d (l.take i) ++ [x]).map It.cells) from by rw [List.map_append]; rfl] at o26
      have d_o26_b_9 := obNe ob_26 d_o_b_9 hb_9.lt
      have S := S.agrN ag_26 (fun k e => Nat.le_trans (by omega) e.2)
      have szB := Nat.le_trans szB ag_26.size
      have hb_9 := hb_9.step ag_26 (fun e => d_o_b_9 _ e.1 rfl)
      obtain ⟨a_26, c_26, rfl, k_26⟩ := o26.form
      refine RL.ev (.assign rfl) rfl rfl ?_
      refine RL.nil (RC.back ?_)
      refine RC.region rfl ?_
      refine RL.ev (.as (.bin rfl rfl rfl) (wi64 (y := ((i + 1 : Nat) : Int)) (by omega) (by omega))) rfl rfl ?_
      refine RL.ev (.move rfl) rfl rfl ?_
      exact RL.nil (fun a ka => ⟨(i + 1, a_26, _, c_26), ⟨by omega, by show Ows _ _ _ _ _ ((ofL lv d (l.take (i + 1))).map It.cells); rw [hnext]; exact o26, S⟩, by omega, ka.keep (keep_of (by repeat (first | exact trivial | refine And.intro rfl ?_)))⟩)
    ·
      have hk : ¬ dig x.k lv = d := (by have := h6; omega)
      have hnext : ofL lv d (l.take (i + 1)) = ofL lv d (l.take i) := (by unfold ofL; rw [filter_take hx, if_neg (by simp [hk]), List.append_nil])
      refine RC.skip (RC.back ?_)
      refine RC.region rfl ?_
      refine RL.ev (.as (.bin rfl rfl rfl) (wi64 (y := ((i + 1 : Nat) : Int)) (by omega) (by omega))) rfl rfl ?_
      refine RL.ev (.move rfl) rfl rfl ?_
      exact RL.nil (fun a ka => ⟨(i + 1, ao, _, co), ⟨by omega, by show Ows _ _ _ _ _ ((ofL lv d (l.take (i + 1))).map It.cells); rw [hnext]; exact o, S⟩, by omega, ka.keep (keep_of (by repeat (first | exact trivial | refine And.intro rfl ?_)))⟩)
  ·
    obtain rfl : i = l.length := (by omega)
    rw [List.take_length] at o
    refine RC.exit rfl (RC.back ?_)
    refine RC.seq ?_
    refine RC.region rfl ?_
    refine RL.ev (.move rfl) rfl rfl ?_
    refine RL.ev (.assign rfl) rfl rfl ?_
    refine RL.nil (RC.back ?_)
    refine RC.done (rs := [.tmp 6]) (vs := [_]) rfl rfl ⟨rfl, trivial⟩ ?_
    -- end 1
    exact ⟨ao, co, by rw [List.take_length]; rfl, o, S⟩
theorem c_refLeast (l : List It) (a : Option Addr) (c m : Nat) (hm : m = l.length) (h0 : 0 < l.length) (w : World) (hl : Sl w a 2 (l.map It.cells)) (hb : l.length ≤ 1000000) :
    FC Try.prog 63 [.slice a m c] w (fun u w' => Sub w w' ∧ ∃ (n : Nat) (x : It), u = .int .i64 (n : Int) ∧ l[n]? = some x ∧ ∀ y ∈ l, x.k ≤ y.k) := by
  subst hm
  obtain ⟨x0, hx0⟩ := getSome (l := l) (i := 0) h0
  refine FC.intro Try.func63 rfl Try.ntmps63 rfl ?_
  have S := Sub.refl w
  refine RC.seq ?_
  refine RC.region rfl ?_
  refine RL.ev (.assign rfl) rfl rfl ?_
  refine RL.nil (RC.back ?_)
  refine RC.seq ?_
  refine RC.region rfl ?_
  refine RL.ev (.assign rfl) rfl rfl ?_
  refine RL.nil (RC.back ?_)
  refine RC.seq ?_
  refine RC.seq ?_
  refine RC.region rfl ?_
  refine RL.ev (.move rfl) rfl rfl ?_
  refine RL.ev (.len sl26 rfl) rfl rfl ?_
  refine RL.ev (.move rfl) rfl rfl ?_
  refine RL.nil (RC.back ?_)
  refine RC.block ?_
  refine RC.loop (α := Nat × Nat × It) (fun x => [(0, .slice a l.length c), (3, .int .i64 (x.2.1 : Int)), (6, .slice a l.length c), (7, .int .i64 (l.length : Int)), (8, .int .i64 (x.1 : Int))]) (fun x w1 => (x.1 ≤ l.length ∧ l[x.2.1]? = some x.2.2 ∧ ∀ j y, j < x.1 → l[j]? = some y → x.2.2.k ≤ y.k) ∧ Sub w w1) (fun x => l.length - x.1) (0, 0, x0) (keep_of (by repeat (first | exact trivial | refine And.intro rfl ?_))) (⟨⟨Nat.zero_le _, hx0, fun j y h => absurd h (by simp only []; omega)⟩, S⟩) (fun x w1 hJ => ?_)
  obtain ⟨i, n, z⟩ := x; obtain ⟨⟨hi, hn, hp⟩, S⟩ := hJ; simp only [] at hi hn hp; have hnl := lt_of_get hn
  refine RC.seq ?_
  refine RC.region rfl ?_
  refine RL.ev (.bin rfl rfl rfl) rfl rfl ?_
  refine RL.nil (RC.back ?_)
  refine RC.seq ?_
  refine RC.cond_dec rfl (fun h2 => ?_) (fun h2 => ?_)
  ·
    have h9 := h2
    simp only [] at h9
    obtain ⟨x, hx⟩ := getSome (l := l) (i := i) (by omega)
    refine RC.skip (RC.back ?_)
    refine RC.seq ?_
    refine RC.block ?_
    refine RC.seq ?_
    refine RC.region rfl ?_
    refine RL.ev (.move rfl) rfl rfl ?_
    refine RL.ev (.indexS sl26 rfl rfl (by omega) (hl.is (i := 0) (by simp only [List.length_map, List.length_cons, List.length_nil]; omega))) rfl rfl ?_
    refine RL.ev (.loadR (x.cells) sh29 rfl ((hl.sub S).rowAt (enc := It.cells) (i := i) hx) rfl) rfl rfl ?_
    refine RL.alloc ze29 rfl rfl (fun b_5 w_5 e_5 z_5 hb_5 s_5 => ?_)
    have ge_5 := S.le e_5
    have S := S.trans s_5
    refine RL.ev (.assign rfl) rfl rfl ?_
    refine RL.store sh29 rfl rfl rfl hb_5 (by exact Nat.le_of_ble_eq_true rfl) (by rfl) rfl (fun w3 z3 hb_5 a3 => ?_)
    have S := S.upd a3 ge_5
    have hb_5 : Has w3 b_5 (x.cells) _ := hb_5.now (by kernel_rfl)
    refine RL.nil (RC.back ?_)
    refine RC.seq ?_
    refine RC.draw rfl mxo (by kernel_rfl) ?_
    refine RQ.ev (.field0 fo29_0 rfl) rfl rfl ?_
    refine RQ.ev (.load1 sh2 rfl (hb_5.cell rfl)) rfl rfl ?_
    refine RQ.ev (.move rfl) rfl rfl ?_
    refine RQ.ev (.move rfl) rfl rfl ?_
    refine RQ.ev (.indexS sl26 rfl rfl (by simp only []; omega) (hl.is (i := 0) (by simp only [List.length_map, List.length_cons, List.length_nil]; omega))) rfl rfl ?_
    refine RQ.ev (.fieldA fo29_0 rfl) rfl rfl ?_
    refine RQ.ev (.load1 sh2 rfl ((hl.sub S).cell (enc := It.cells) (j := 0) hn rfl)) rfl rfl ?_
    refine RQ.ev (.bin rfl rfl rfl) rfl rfl ?_
    refine RQ.nil (fun w4 s5 => RC.back ?_)
    have S := S.trans s5
    have hb_5 := hb_5.sub s5
    refine RC.cond_dec rfl (fun h6 => ?_) (fun h6 => ?_)
    ·
      have q : x.k < z.k := h6
      refine RC.region rfl ?_
      refine RL.ev (.move rfl) rfl rfl ?_
      refine RL.ev (.assign rfl) rfl rfl ?_
      refine RL.nil (RC.back ?_)
      refine RC.region rfl ?_
      refine RL.ev (.as (.bin rfl rfl rfl) (wi64 (y := ((i + 1 : Nat) : Int)) (by simp only []; omega) (by omega))) rfl rfl ?_
      refine RL.ev (.move rfl) rfl rfl ?_
      exact RL.nil (fun a ka => ⟨(i + 1, i, x), ⟨⟨by simp only []; omega, hx, fun j y hj hy => by simp only [] at hj ⊢; by_cases e : j = i; (rw [e, hx] at hy; cases hy; omega); (have := hp j y (by omega) hy; omega)⟩, S⟩, by simp only []; omega, ka.keep (keep_of (by repeat (first | exact trivial | refine And.intro rfl ?_)))⟩)
    ·
      have q : ¬ x.k < z.k := h6
      refine RC.skip (RC.back ?_)
      refine RC.region rfl ?_
      refine RL.ev (.as (.bin rfl rfl rfl) (wi64 (y := ((i + 1 : Nat) : Int)) (by simp only []; omega) (by omega))) rfl rfl ?_
      refine RL.ev (.move rfl) rfl rfl ?_
      exact RL.nil (fun a ka => ⟨(i + 1, n, z), ⟨⟨by simp only []; omega, hn, fun j y hj hy => by simp only [] at hj ⊢; by_cases e : j = i; (rw [e, hx] at hy; cases hy; omega); exact hp j y (by omega) hy⟩, S⟩, by simp only []; omega, ka.keep (keep_of (by repeat (first | exact trivial | refine And.intro rfl ?_)))⟩)
  ·
    have h9 := h2
    simp only [] at h9
    obtain rfl : i = l.length := (by omega)
    refine RC.exit rfl (RC.back ?_)
    refine RC.seq ?_
    refine RC.region rfl ?_
    refine RL.ev (.move rfl) rfl rfl ?_
    refine RL.ev (.assign rfl) rfl rfl ?_
    refine RL.nil (RC.back ?_)
    refine RC.done (rs := [.tmp 2]) (vs := [_]) rfl rfl ⟨rfl, trivial⟩ ?_
    -- end 1
    exact ⟨S, n, z, rfl, hn, fun y hy => by obtain ⟨j, hj⟩ := List.getElem?_of_mem hy; exact hp j y (lt_of_get hj) hj⟩
noncomputable def lfB (A : Ar) (r : Int) (x : It) : Bool := @decide (lfA A r x) (Classical.propDecidable _)
theorem lfB_iff (A : Ar) (r : Int) (x : It) : lfB A r x = true ↔ lfA A r x := by unfold lfB; exact @decide_eq_true_iff _ (Classical.propDecidable _)
theorem lfB_no {A : Ar} {r : Int} {x : It} (h : ¬ lfA A r x) : lfB A r x = false := by rw [Bool.eq_false_iff]; exact fun e => h ((lfB_iff A r x).1 e)
theorem lfB_at {A : Ar} {r : Int} {x : It} {y : Node} (h : getA A r = some y) : lfB A r x = decide (y = hN 3 y.gen x.k x.v 0 []) := by
  rw [Bool.eq_iff_iff, lfB_iff, decide_eq_true_iff]
  constructor
  · rintro ⟨g, e⟩
    rw [h] at e
    cases e
    rfl
  · intro e; exact ⟨y.gen, by rw [h, ← e]⟩
theorem c_refLeaf (A : Ar) (na fa : Option Addr) (nc fc : Nat) (hn : A.nodes.length ≤ 1000000000) (r : Int) (hr : U64 r) (x : It) (w : World) (hA : ArR w na fa A) :
    FC Try.prog 60 [arV na fa nc fc A, .int .u64 r, x.val] w (Val (.bool (lfB A r x)) w) := by
  have hf := atA_form A r
  have hNd := hA.nodes
  have hFr := hA.free
  refine FC.intro Try.func60 rfl Try.ntmps60 rfl ?_
  have S := Sub.refl w
  refine RC.seq ?_
  refine RC.region rfl ?_
  refine RL.box rfl rfl rfl (fun b_3 w_3 e_3 z_3 hb_3 s_3 => ?_)
  have ge_3 := S.le e_3
  have S := S.trans s_3
  have hb_3 : Has w_3 b_3 ([.slice na A.nodes.length nc, .slice fa A.free.length fc]) _ := hb_3
  refine RL.box rfl rfl rfl (fun b_5 w_5 e_5 z_5 hb_5 s_5 => ?_)
  have ge_5 := S.le e_5
  have n_3__5 := hb_3.ne e_5
  have S := S.trans s_5
  have hb_3 := hb_3.sub s_5
  have hb_5 : Has w_5 b_5 (x.cells) _ := hb_5
  refine RL.ev (.assign rfl) rfl rfl ?_
  refine RL.nil (RC.back ?_)
  refine RC.seq ?_
  refine RC.region rfl ?_
  refine RL.ev (.loadR ([.slice na A.nodes.length nc, .slice fa A.free.length fc]) sh34 rfl hb_3.row rfl) rfl rfl ?_
  refine RL.ev (.move rfl) rfl rfl ?_
  refine RL.call rfl ok61 (c_r4At A na fa nc fc r hr w_5 (hA.sub S) hn) rfl rfl ?_
  rintro _ w1 ⟨rfl, s2⟩
  have S := S.trans s2
  have hb_3 := hb_3.sub s2
  have hb_5 := hb_5.sub s2
  refine RL.ev (.assign rfl) rfl rfl ?_
  refine RL.nil (RC.back ?_)
  refine RC.seq ?_
  refine RC.seq ?_
  refine RC.region rfl ?_
  refine RL.ev (.move rfl) rfl rfl ?_
  refine RL.ev (.bin rfl rfl rfl) rfl rfl ?_
  refine RL.nil (RC.back ?_)
  refine RC.cond_dec rfl (fun h3 => ?_) (fun h3 => ?_)
  ·
    have hno := hf.1 h3
    have hres : lfB A r x = false := lfB_no (fun ⟨g, e⟩ => by rw [hno] at e; cases e)
    refine RC.seq ?_
    refine RC.region rfl ?_
    refine RL.ev (.assign rfl) rfl rfl ?_
    refine RL.nil (RC.back ?_)
    refine RC.done (rs := [.tmp 6]) (vs := [_]) rfl rfl ⟨rfl, trivial⟩ ?_
    -- end 1
    rw [hres]
    exact ⟨rfl, S⟩
  ·
    obtain ⟨y, hy, hay⟩ := hf.2 h3
    have hrg := getA_rng hy
    have hres := lfB_at (x := x) hy
    refine RC.skip (RC.back ?_)
    refine RC.seq ?_
    refine RC.drawD (fun k => False) [12] w1.heap.size 13 rfl rfl mxo (fun w4 s5 => ?_)
    have hNN : ∀ k, ((False) ∨ w1.heap.size ≤ k) → w.heap.size ≤ k := fun k e => e.elim (fun e => e.elim) (fun e => Nat.le_trans S.size e)
    have ent_S := S.size
    have hN0 : ∀ k, w1.heap.size ≤ k → w.heap.size ≤ k := fun k e => Nat.le_trans S.size e
    have ltD_b_3 := hb_3.lt
    have ltD_b_5 := hb_5.lt
    have szD := Nat.le_refl w1.heap.size
    have S := S.trans s5
    have hb_3 := hb_3.sub s5
    have hb_5 := hb_5.sub s5
    have szD := Nat.le_trans szD s5.size
    refine RD.take 0 rfl (by kernel_rfl) (by kernel_rfl) (by kernel_rfl) (fun w' s' => .field0 fo34_0 rfl) rfl rfl ?_
    refine RD.take 1 rfl (by kernel_rfl) (by kernel_rfl) (by kernel_rfl) (fun w' s' => .load1 sh31 rfl ((hb_3.step s' (fun e => e.elim (fun e => e.elim) (fun e => Nat.not_le.2 ltD_b_3 e))).cell rfl)) rfl rfl ?_
    refine RD.take 2 rfl (by kernel_rfl) (by kernel_rfl) (by kernel_rfl) (fun w' s' => .as (v' := .int .i64 (placeR r)) (.move rfl) (by rw [hay])) rfl rfl ?_
    refine RD.take 3 rfl (by kernel_rfl) (by kernel_rfl) (by kernel_rfl) (fun w' s' => .indexS sl31 rfl rfl (by omega) (hNd.is (i := 0) (by simp only [List.length_map, List.length_cons, List.length_nil]; omega))) rfl rfl ?_
    refine RD.take 4 rfl (by kernel_rfl) (by kernel_rfl) (by kernel_rfl) (fun w' s' => .fieldA fo97_1 rfl) rfl rfl ?_
    refine RD.take 5 rfl (by kernel_rfl) (by kernel_rfl) (by kernel_rfl) (fun w' s' => .load1 sh3 rfl ((hNd.sub (S.agrN s' hNN)).cell (enc := Node.cells) (j := 1) (getA_get hy).1 rfl)) rfl rfl ?_
    refine RD.take 6 rfl (by kernel_rfl) (by kernel_rfl) (by kernel_rfl) (fun w' s' => .field0 fo29_0 rfl) rfl rfl ?_
    refine RD.take 7 rfl (by kernel_rfl) (by kernel_rfl) (by kernel_rfl) (fun w' s' => .load1 sh2 rfl ((hb_5.step s' (fun e => e.elim (fun e => e.elim) (fun e => Nat.not_le.2 ltD_b_5 e))).cell rfl)) rfl rfl ?_
    refine RD.take 8 rfl (by kernel_rfl) (by kernel_rfl) (by kernel_rfl) (fun w' s' => .field0 fo29_1 rfl) rfl rfl ?_
    refine RD.take 9 rfl (by kernel_rfl) (by kernel_rfl) (by kernel_rfl) (fun w' s' => .load1 sh2 rfl ((hb_5.step s' (fun e => e.elim (fun e => e.elim) (fun e => Nat.not_le.2 ltD_b_5 e))).cell rfl)) rfl rfl ?_
    refine RD.take 10 rfl (by kernel_rfl) (by kernel_rfl) (by kernel_rfl) (fun w' s' => .buildS ze97 pl97 rfl rfl) rfl rfl ?_
    refine RD.all [11] (by kernel_rfl) rfl (RDs.cons rfl ?_ (RDs.nil))
    refine RL.alloc ze97 rfl rfl (fun b_8 w_8 e_8 z_8 hb_8 s_8 => ?_)
    have fr_b_8 : w1.heap.size ≤ b_8 := by rw [e_8]; exact szD
    have ge_8 := S.le e_8
    have n_3__8 := hb_3.ne e_8
    have n_5__8 := hb_5.ne e_8
    have S := S.trans s_8
    have hb_3 := hb_3.sub s_8
    have hb_5 := hb_5.sub s_8
    have szD := Nat.le_trans szD s_8.size
    refine RD.back s_8.agr ?_
    refine RD.all [12] (by kernel_rfl) rfl (RDs.cons rfl ?_ (RDs.nil))
    refine RL.store sh97 rfl rfl rfl hb_8 (by exact Nat.le_of_ble_eq_true rfl) (by rfl) rfl (fun w6 z6 hb_8 a6 => ?_)
    have S := S.upd a6 ge_8
    have hb_3 := hb_3.upd a6 n_3__8
    have hb_5 := hb_5.upd a6 n_5__8
    have szD := Nat.le_trans szD a6.size
    have hb_8 : Has w6 b_8 ((hN 3 y.gen x.k x.v 0 []).cells) _ := hb_8.now (by kernel_rfl)
    refine RD.backW rfl (a6.mono fun k _ e => e ▸ (.inr fr_b_8)) ?_
    refine RD.done (by kernel_rfl) (RC.back ?_)
    refine RC.seq ?_
    refine RC.draw rfl mxo (by kernel_rfl) ?_
    refine RQ.ev (.field0 fo34_0 rfl) rfl rfl ?_
    refine RQ.ev (.load1 sh31 rfl (hb_3.cell rfl)) rfl rfl ?_
    refine RQ.ev (.as (v' := .int .i64 (placeR r)) (.move rfl) (by rw [hay])) rfl rfl ?_
    refine RQ.ev (.indexS sl31 rfl rfl (by omega) (hNd.is (i := 0) (by simp only [List.length_map, List.length_cons, List.length_nil]; omega))) rfl rfl ?_
    refine RQ.ev (.loadR (y.cells) sh97 rfl ((hNd.sub S).rowAt (enc := Node.cells) (getA_get hy).1) rfl) rfl rfl ?_
    refine RQ.ev (.loadR ((hN 3 y.gen x.k x.v 0 []).cells) sh97 rfl hb_8.row rfl) rfl rfl ?_
    refine RQ.ev (.eqS (xs := y.cells) (ys := (hN 3 y.gen x.k x.v 0 []).cells) fk97 eg97 sh97 rfl rfl rfl rfl rfl) rfl rfl ?_
    refine RQ.ev (.assign rfl) rfl rfl ?_
    refine RQ.nil (fun w7 s8 => RC.back ?_)
    have S := S.trans s8
    have hb_3 := hb_3.sub s8
    have hb_5 := hb_5.sub s8
    have hb_8 := hb_8.sub s8
    refine RC.done (rs := [.tmp 6]) (vs := [_]) rfl rfl ⟨rfl, trivial⟩ ?_
    -- end 2
    rw [hres]
    exact ⟨congrArg Value.bool (eqL_cells _ _), S⟩
end Go.Proofs.Ytbfjobmebkhblaa
set_option linter.unusedVariables false
set_option linter.unusedSimpArgs false
namespace Go.Proofs.Ytbfjobmebkhblaa
open Go Go.XL
theorem srt_exists : ∀ {l : List It}, Ap l → ∃ m, List.Perm m l ∧ Srt m
  | [], _ => ⟨[], List.Perm.refl _, List.Pairwise.nil⟩
  | x :: l, h => by
    obtain ⟨h1, h2⟩ := List.pairwise_cons.1 h
    obtain ⟨m, p, s⟩ := srt_exists h2
    refine ⟨putL m x.k x.v, putL_putM.trans ?_, s.put⟩
    unfold putM
    rw [delL_none fun y hy e => h1 y (p.mem_iff.1 hy) e.symm]
    exact List.Perm.cons x p
theorem srt_unique : ∀ {a b : List It}, Srt a → Srt b → a.Perm b → a = b
  | [], b, _, _, p => (List.Perm.nil_eq p)
  | x :: a, [], _, _, p => by cases p.length_eq
  | x :: a, y :: b, ha, hb, p => by
    obtain ⟨a1, a2⟩ := List.pairwise_cons.1 ha
    obtain ⟨b1, b2⟩ := List.pairwise_cons.1 hb
    have e : x = y := by
      have hx := p.mem_iff.1 (List.mem_cons_self (a := x) (l := a))
      have hy := p.mem_iff.2 (List.mem_cons_self (a := y) (l := b))
      rcases List.mem_cons.1 hx with e | hx
      · exact e
      · rcases List.mem_cons.1 hy with e | hy
        · exact e.symm
        · have := b1 x hx; have := a1 y hy; omega
    subst e
    rw [srt_unique a2 b2 (List.Perm.cons_inv p)]
noncomputable def isHB (A : Ar) (k : Nat) (r : Int) (l : List It) : Bool := @decide (IsH A k r l) (Classical.propDecidable _)
theorem isHB_iff (A : Ar) (k : Nat) (r : Int) (l : List It) : isHB A k r l = true ↔ IsH A k r l := by unfold isHB; exact @decide_eq_true_iff _ (Classical.propDecidable _)
theorem isHB_no {A : Ar} {k : Nat} {r : Int} {l : List It} (h : ¬ IsH A k r l) : isHB A k r l = false := by rw [Bool.eq_false_iff]; exact fun e => h ((isHB_iff A k r l).1 e)
theorem isHB_yes {A : Ar} {k : Nat} {r : Int} {l : List It} (h : IsH A k r l) : isHB A k r l = true := (isHB_iff A k r l).2 h
theorem isHB_nil (A : Ar) (k : Nat) (r : Int) : isHB A k r [] = decide (r = 0) := by rw [Bool.eq_iff_iff, isHB_iff, decide_eq_true_iff]; exact isH_nil
theorem isHB_one (A : Ar) (k : Nat) (r : Int) (x : It) : isHB A k r [x] = lfB A r x := by rw [Bool.eq_iff_iff, isHB_iff, lfB_iff]; exact isH_one
theorem isHB_none {A : Ar} {k : Nat} {r : Int} {l : List It} (hl : 2 ≤ l.length) (h : getA A r = none) : isHB A k r l = false := isHB_no fun e => by
  obtain ⟨_, _, _, _, e⟩ := e.node hl
  rw [h] at e; cases e
theorem trie_iff {A : Ar} {k : Nat} {r : Int} {l : List It} {y : Node} (hl : 2 ≤ l.length) (h : getA A r = some y) : IsH A (k + 1) r l ↔ y = hN 2 y.gen 0 0 l.length (y.kids.take 4) ∧ ∀ j, j < 4 → IsH A k (y.kids.getD j 0) (ofL (9 - k) j l) := by
  rw [isH_trie hl]
  constructor
  · rintro ⟨g, ks, h1, h2, h3⟩
    rw [h] at h2
    cases h2
    refine ⟨?_, fun j hj => by rw [hN_kid (by omega)]; exact h3 j hj⟩
    rcases ks with _|⟨a, _|⟨b, _|⟨c, _|⟨d, _|⟨e, ks⟩⟩⟩⟩⟩
    all_goals first | rfl | (simp at h1)
  · rintro ⟨h1, h2⟩
    refine ⟨y.gen, y.kids.take 4, rfl, by rw [h]; exact congrArg some h1, fun j hj => by rw [take_getD hj]; exact h2 j hj⟩
theorem clash_iff {A : Ar} {r : Int} {l m : List It} {y : Node} (hl : 2 ≤ l.length) (hp : m.Perm l) (hs : Srt m) (h : getA A r = some y) : IsH A 0 r l ↔ m.length ≤ 9 ∧ y = hN 4 y.gen 0 0 l.length (y.kids.take m.length) ∧ ∀ j x, m[j]? = some x → lfA A (y.kids.getD j 0) x := by
  rw [isH_clash hl]
  constructor
  · rintro ⟨g, ks, m', h1, h2, h3, h4, h5, h6⟩
    obtain rfl : m = m' := srt_unique hs h2 (hp.trans h1.symm)
    rw [h] at h5
    cases h5
    refine ⟨h3, ?_, fun j x hx => by rw [hN_kid (by have := lt_of_get hx; omega)]; exact h6 j x hx⟩
    rw [← hp.length_eq]
    have e : (hN 4 g 0 0 m.length ks).kids.take m.length = ks := by
      rw [← h4]
      apply List.ext_getElem?
      intro i
      by_cases hi : i < ks.length
      · rw [List.getElem?_take_of_lt hi]
        obtain ⟨z, hz⟩ := getSome (l := ks) hi
        have q := hN_kid (kd := 4) (g := g) (n := 0) (v := 0) (s := (ks.length : Nat)) (ks := ks) (i := i) (by omega)
        rw [List.getD_eq_getElem?_getD, List.getD_eq_getElem?_getD, hz] at q
        obtain ⟨z', hz'⟩ := getSome (l := (hN 4 g 0 0 (ks.length : Nat) ks).kids) (i := i) (by show i < 9; omega)
        rw [hz'] at q ⊢
        rw [hz]; exact congrArg some q
      · rw [List.getElem?_eq_none (l := ks) (by omega), List.getElem?_eq_none (by rw [List.length_take]; omega)]
    rw [e]; rfl
  · rintro ⟨h1, h2, h3⟩
    refine ⟨y.gen, y.kids.take m.length, m, hp, hs, h1, by rw [List.length_take]; show min _ 9 = _; omega, by rw [h, hp.length_eq, ← hp.length_eq]; rw [hp.length_eq] at h2 ⊢; exact congrArg some h2, fun j x hx => by rw [take_getD (lt_of_get hx)]; exact h3 j x hx⟩
/-- the least of what is left -/
theorem least_is {m rest : List It} {i n : Nat} {x : It} (hs : Srt m) (hp : rest.Perm (m.drop i)) (hx : rest[n]? = some x) (hle : ∀ y ∈ rest, x.k ≤ y.k) : m[i]? = some x ∧ (rest.take n ++ rest.drop (n + 1)).Perm (m.drop (i + 1)) := by
  have hxm := hp.mem_iff.1 (List.mem_of_getElem? hx)
  have hne : i < m.length := by
    have := List.length_pos_of_mem hxm
    rw [List.length_drop] at this; omega
  obtain ⟨z, hz⟩ := getSome (l := m) hne
  have hd : m.drop i = z :: m.drop (i + 1) := by rw [List.drop_eq_getElem_cons hne, getElem_of hz]
  have hsd : Srt (m.drop i) := List.Pairwise.sublist (List.drop_sublist _ _) hs
  rw [hd] at hsd hxm hp
  have hzx : z = x := by
    rcases List.mem_cons.1 hxm with e | h
    · exact e.symm
    · have h1 := (List.pairwise_cons.1 hsd).1 x h
      have h2 := hle z (hp.mem_iff.2 (by simp))
      omega
  subst hzx
  refine ⟨hz, ?_⟩
  have e := split_at hx
  rw [e] at hp
  exact List.Perm.cons_inv (List.perm_middle.symm.trans hp)
end Go.Proofs.Ytbfjobmebkhblaa
set_option linter.unusedVariables false
set_option linter.unusedSimpArgs false
set_option maxRecDepth 4000
namespace Go.Proofs.Ytbfjobmebkhblaa
open Go Go.XL
theorem kids_set (kd g s : Int) (y : Node) (j : Nat) (hj : j < 9) {z : Int} (hz : y.kids[j]? = some z) : splice (hN kd g 0 0 s (y.kids.take j)).cells (5 + (j : Int).toNat * 1) [u6 z] = (hN kd g 0 0 s (y.kids.take (j + 1))).cells := by
  rcases j with _|_|_|_|_|_|_|_|_|j
  all_goals first | (cases hz; rfl) | omega
theorem len_cases {l : List It} (h0 : ¬ l.length = 0) (h1 : ¬ l.length = 1) : 2 ≤ l.length := by omega
set_option maxHeartbeats 1000000 in
theorem c_refIsT (A : Ar) (na fa : Option Addr) (nc fc : Nat) (hnl : A.nodes.length ≤ 1000000000) (k lv : Nat) (hk : k ≤ 9) (hlv : lv = 9 - k) (r : Int) (l : List It) (hap : Ap l) (a : Option Addr) (c m : Nat) (hm : m = l.length) (hr : U64 r) (hb : l.length ≤ 1000000) (w : World) (hA : ArR w na fa A) (hl : Sl w a 2 (l.map It.cells))
    (ih : ∀ (r' : Int) (l' : List It) (a' : Option Addr) (c' m' : Nat) (w' : World), Ap l' → m' = l'.length → U64 r' → l'.length ≤ 1000000 → ArR w' na fa A → Sl w' a' 2 (l'.map It.cells) → FC Try.prog 32 [arV na fa nc fc A, .int .u64 r', .slice a' m' c', .int .i64 ((lv + 1 : Nat) : Int)] w' (Val (.bool (isHB A k r' l')) w')) :
    FC Try.prog 32 [arV na fa nc fc A, .int .u64 r, .slice a m c, .int .i64 (lv : Int)] w (Val (.bool (isHB A (k + 1) r l)) w) := by
  subst hm
  have hf := atA_form A r
  have hNd := hA.nodes
  have hFr := hA.free
  have len0 : l.length = 0 → l = [] := List.eq_nil_of_length_eq_zero
  refine FC.intro Try.func32 rfl Try.ntmps32 rfl ?_
  have S := Sub.refl w
  refine RC.seq ?_
  refine RC.region rfl ?_
  refine RL.box rfl rfl rfl (fun b_4 w_4 e_4 z_4 hb_4 s_4 => ?_)
  have ge_4 := S.le e_4
  have S := S.trans s_4
  have hb_4 : Has w_4 b_4 ([.slice na A.nodes.length nc, .slice fa A.free.length fc]) _ := hb_4
  refine RL.ev (.assign rfl) rfl rfl ?_
  refine RL.nil (RC.back ?_)
  refine RC.seq ?_
  refine RC.seq ?_
  refine RC.region rfl ?_
  refine RL.ev (.move rfl) rfl rfl ?_
  refine RL.ev (.len sl26 rfl) rfl rfl ?_
  refine RL.ev (.bin rfl rfl rfl) rfl rfl ?_
  refine RL.nil (RC.back ?_)
  refine RC.cond_dec rfl (fun h1 => ?_) (fun h1 => ?_)
  ·
    have q0 : l = [] := len0 (by have := h1; omega)
    have hres : isHB A (k + 1) r l = decide (r = 0) := (by rw [q0]; exact isHB_nil _ _ _)
    refine RC.seq ?_
    refine RC.region rfl ?_
    refine RL.ev (.move rfl) rfl rfl ?_
    refine RL.ev (.bin rfl rfl rfl) rfl rfl ?_
    refine RL.ev (.assign rfl) rfl rfl ?_
    refine RL.nil (RC.back ?_)
    refine RC.done (rs := [.tmp 8]) (vs := [_]) rfl rfl ⟨rfl, trivial⟩ ?_
    -- end 1
    rw [hres]
    exact ⟨rfl, S⟩
  ·
    have q0 : ¬ l.length = 0 := (by have := h1; omega)
    refine RC.skip (RC.back ?_)
    refine RC.seq ?_
    refine RC.seq ?_
    refine RC.region rfl ?_
    refine RL.ev (.move rfl) rfl rfl ?_
    refine RL.ev (.len sl26 rfl) rfl rfl ?_
    refine RL.ev (.bin rfl rfl rfl) rfl rfl ?_
    refine RL.nil (RC.back ?_)
    refine RC.cond_dec rfl (fun h2 => ?_) (fun h2 => ?_)
    ·
      have q1 : l.length = 1 := (by have := h2; omega)
      obtain ⟨x, hx1⟩ := List.length_eq_one_iff.1 q1
      have hx : l[0]? = some x := (by rw [hx1]; rfl)
      have hres : isHB A (k + 1) r l = lfB A r x := (by rw [hx1]; exact isHB_one _ _ _ _)
      refine RC.seq ?_
      refine RC.draw rfl mxo (by kernel_rfl) ?_
      refine RQ.ev (.loadR ([.slice na A.nodes.length nc, .slice fa A.free.length fc]) sh34 rfl hb_4.row rfl) rfl rfl ?_
      refine RQ.ev (.move rfl) rfl rfl ?_
      refine RQ.ev (.move rfl) rfl rfl ?_
      refine RQ.ev (.indexS sl26 rfl rfl (by omega) (hl.is (i := 0) (by simp only [List.length_map, List.length_cons, List.length_nil]; omega))) rfl rfl ?_
      refine RQ.ev (.loadR (x.cells) sh29 rfl ((hl.sub S).rowAt (enc := It.cells) (i := 0) hx) rfl) rfl rfl ?_
      refine RQ.call rfl ok60 (fun w' s' => c_refLeaf A na fa nc fc hnl r hr x w' (hA.sub (S.trans s'))) rfl rfl ?_
      refine RQ.ev (.assign rfl) rfl rfl ?_
      refine RQ.nil (fun w3 s4 => RC.back ?_)
      have S := S.trans s4
      have hb_4 := hb_4.sub s4
      refine RC.done (rs := [.tmp 8]) (vs := [_]) rfl rfl ⟨rfl, trivial⟩ ?_
      -- end 2
      rw [hres]
      exact ⟨rfl, S⟩
    ·
      have q1 : 2 ≤ l.length := len_cases q0 (by have := h2; omega)
      refine RC.skip (RC.back ?_)
      refine RC.seq ?_
      refine RC.region rfl ?_
      refine RL.ev (.loadR ([.slice na A.nodes.length nc, .slice fa A.free.length fc]) sh34 rfl hb_4.row rfl) rfl rfl ?_
      refine RL.ev (.move rfl) rfl rfl ?_
      refine RL.call rfl ok61 (c_r4At A na fa nc fc r hr w_4 (hA.sub S) hnl) rfl rfl ?_
      rintro _ w5 ⟨rfl, s6⟩
      have S := S.trans s6
      have hb_4 := hb_4.sub s6
      refine RL.ev (.assign rfl) rfl rfl ?_
      refine RL.nil (RC.back ?_)
      refine RC.seq ?_
      refine RC.seq ?_
      refine RC.region rfl ?_
      refine RL.ev (.move rfl) rfl rfl ?_
      refine RL.ev (.bin rfl rfl rfl) rfl rfl ?_
      refine RL.nil (RC.back ?_)
      refine RC.cond_dec rfl (fun h7 => ?_) (fun h7 => ?_)
      ·
        have hres : isHB A (k + 1) r l = false := isHB_none q1 (hf.1 h7)
        refine RC.seq ?_
        refine RC.region rfl ?_
        refine RL.ev (.assign rfl) rfl rfl ?_
        refine RL.nil (RC.back ?_)
        refine RC.done (rs := [.tmp 8]) (vs := [_]) rfl rfl ⟨rfl, trivial⟩ ?_
        -- end 3
        rw [hres]
        exact ⟨rfl, S⟩
      ·
        obtain ⟨y, hy, hay⟩ := hf.2 h7
        have hrg := getA_rng hy
        have hyo := hA.nok y (getA_nok hy)
        have hti := trie_iff (k := k) q1 hy
        refine RC.skip (RC.back ?_)
        refine RC.seq ?_
        refine RC.region rfl ?_
        refine RL.ev (.field0 fo34_0 rfl) rfl rfl ?_
        refine RL.ev (.load1 sh31 rfl (hb_4.cell rfl)) rfl rfl ?_
        refine RL.ev (.as (v' := .int .i64 (placeR r)) (.move rfl) (by rw [hay])) rfl rfl ?_
        refine RL.ev (.indexS sl31 rfl rfl (by omega) (hNd.is (i := 0) (by simp only [List.length_map, List.length_cons, List.length_nil]; omega))) rfl rfl ?_
        refine RL.ev (.loadR (y.cells) sh97 rfl ((hNd.sub S).rowAt (enc := Node.cells) (getA_get hy).1) rfl) rfl rfl ?_
        refine RL.alloc ze97 rfl rfl (fun b_10 w_10 e_10 z_10 hb_10 s_10 => ?_)
        have ge_10 := S.le e_10
        have n_4__10 := hb_4.ne e_10
        have S := S.trans s_10
        have hb_4 := hb_4.sub s_10
        refine RL.store sh97 rfl rfl rfl hb_10 (by exact Nat.le_of_ble_eq_true rfl) (by rfl) rfl (fun w8 z8 hb_10 a8 => ?_)
        have S := S.upd a8 ge_10
        have hb_4 := hb_4.upd a8 n_4__10
        have hb_10 : Has w8 b_10 (y.cells) _ := hb_10.now (by kernel_rfl)
        refine RL.nil (RC.back ?_)
        refine RC.seq ?_
        refine RC.region rfl ?_
        refine RL.ev (.field0 fo97_1 rfl) rfl rfl ?_
        refine RL.ev (.load1 sh3 rfl (hb_10.cell rfl)) rfl rfl ?_
        refine RL.ev (.move rfl) rfl rfl ?_
        refine RL.ev (.len sl26 rfl) rfl rfl ?_
        refine RL.ev (.buildS ze97 pl97 rfl rfl) rfl rfl ?_
        refine RL.alloc ze97 rfl rfl (fun b_11 w_11 e_11 z_11 hb_11 s_11 => ?_)
        have ge_11 := S.le e_11
        have n_4__11 := hb_4.ne e_11
        have n_10__11 := hb_10.ne e_11
        have S := S.trans s_11
        have hb_4 := hb_4.sub s_11
        have hb_10 := hb_10.sub s_11
        refine RL.store sh97 rfl rfl rfl hb_11 (by exact Nat.le_of_ble_eq_true rfl) (by rfl) rfl (fun w9 z9 hb_11 a9 => ?_)
        have S := S.upd a9 ge_11
        have hb_4 := hb_4.upd a9 n_4__11
        have hb_10 := hb_10.upd a9 n_10__11
        have hb_11 : Has w9 b_11 ((hN 2 y.gen 0 0 l.length (y.kids.take 0)).cells) _ := hb_11.now (by kernel_rfl)
        refine RL.nil (RC.back ?_)
        refine RC.seq ?_
        refine RC.seq ?_
        refine RC.region rfl ?_
        refine RL.ev (.move rfl) rfl rfl ?_
        refine RL.ev (.as (v' := .bool true) (.bin rfl rfl rfl) (congrArg Value.bool (decide_eq_true (by omega)))) rfl rfl ?_
        refine RL.nil (RC.back ?_)
        refine RC.cond_t rfl ?_
        refine RC.seq ?_
        refine RC.seq ?_
        refine RC.region rfl ?_
        refine RL.ev (.assign rfl) rfl rfl ?_
        refine RL.nil (RC.back ?_)
        refine RC.block ?_
        refine RC.loop (α := Nat) (fun j => [(2, .slice a l.length c), (3, .int .i64 (lv : Int)), (4, .pointer (some ⟨b_4, 0, none⟩)), (10, .pointer (some ⟨b_10, 0, none⟩)), (11, .pointer (some ⟨b_11, 0, none⟩)), (12, .int .i64 (j : Int))]) (fun j w10 => (j ≤ 4 ∧ ∀ q, q < j → IsH A k (y.kids.getD q 0) (ofL (9 - k) q l)) ∧ Has w10 b_4 [.slice na A.nodes.length nc, .slice fa A.free.length fc] 34 ∧ Has w10 b_10 y.cells 97 ∧ Has w10 b_11 (hN 2 y.gen 0 0 l.length (y.kids.take j)).cells 97 ∧ Sub w w10) (fun j => 4 - j) 0 (keep_of (by repeat (first | exact trivial | refine And.intro rfl ?_))) (⟨⟨Nat.zero_le _, fun q h => absurd h (by omega)⟩, hb_4, hb_10, hb_11, S⟩) (fun j w10 hJ => ?_)
        obtain ⟨⟨hj, hq⟩, hb_4, hb_10, hb_11, S⟩ := hJ
        refine RC.seq ?_
        refine RC.seq ?_
        refine RC.region rfl ?_
        refine RL.ev (.move rfl) rfl rfl ?_
        refine RL.ev (.bin rfl rfl rfl) rfl rfl ?_
        refine RL.nil (RC.back ?_)
        refine RC.cond_dec rfl (fun h11 => ?_) (fun h11 => ?_)
        ·
          obtain ⟨z, hz⟩ := getSome (l := y.kids) (i := j) (by show j < 9; omega)
          have hzd := kid_get hz
          have hzu := hyo.kids z (List.mem_of_getElem? hz)
          have hj4 : j < 4 := (by omega)
          refine RC.skip (RC.back ?_)
          refine RC.seq ?_
          refine RC.block ?_
          refine RC.seq ?_
          refine RC.region rfl ?_
          refine RL.ev (.move rfl) rfl rfl ?_
          refine RL.ev (.move rfl) rfl rfl ?_
          refine RL.ev (.field0 fo97_5 rfl) rfl rfl ?_
          refine RL.ev (.indexArr ar95 rfl rfl (by omega)) rfl rfl ?_
          refine RL.ev (.load1 sh36 rfl (hb_10.cell (kid_cell hz))) rfl rfl ?_
          refine RL.ev (.field0 fo97_5 rfl) rfl rfl ?_
          refine RL.ev (.indexArr ar95 rfl rfl (by omega)) rfl rfl ?_
          refine RL.store sh36 rfl rfl rfl hb_11 (by show 5 + j * 1 + 1 ≤ 16; omega) (by rfl) rfl (fun w12 z12 hb_11 a12 => ?_)
          have S := S.upd a12 ge_11
          have hb_4 := hb_4.upd a12 n_4__11
          have hb_10 := hb_10.upd a12 n_10__11
          have hb_11 : Has w12 b_11 (hN 2 y.gen 0 0 l.length (y.kids.take (j + 1))).cells 97 := (by rw [← kids_set 2 y.gen l.length y j (by omega) hz]; exact hb_11)
          refine RL.nil (RC.back ?_)
          refine RC.seq ?_
          refine RC.drawD (fun k => False) [] w12.heap.size 13 rfl rfl mxo (fun w13 s14 => ?_)
          have hNN : ∀ k, ((False) ∨ w12.heap.size ≤ k) → w.heap.size ≤ k := fun k e => e.elim (fun e => e.elim) (fun e => Nat.le_trans S.size e)
          have ent_S := S.size
          have hN0 : ∀ k, w12.heap.size ≤ k → w.heap.size ≤ k := fun k e => Nat.le_trans S.size e
          have ltD_b_4 := hb_4.lt
          have ltD_b_10 := hb_10.lt
          have ltD_b_11 := hb_11.lt
          have szD := Nat.le_refl w12.heap.size
          have S := S.trans s14
          have hb_4 := hb_4.sub s14
          have hb_10 := hb_10.sub s14
          have hb_11 := hb_11.sub s14
          have szD := Nat.le_trans szD s14.size
          refine RD.take 0 rfl (by kernel_rfl) (by kernel_rfl) (by kernel_rfl) (fun w' s' => .loadR ([.slice na A.nodes.length nc, .slice fa A.free.length fc]) sh34 rfl (hb_4.step s' (fun e => e.elim (fun e => e.elim) (fun e => Nat.not_le.2 ltD_b_4 e))).row rfl) rfl rfl ?_
          refine RD.take 1 rfl (by kernel_rfl) (by kernel_rfl) (by kernel_rfl) (fun w' s' => .move rfl) rfl rfl ?_
          refine RD.take 2 rfl (by kernel_rfl) (by kernel_rfl) (by kernel_rfl) (fun w' s' => .field0 fo97_5 rfl) rfl rfl ?_
          refine RD.take 3 rfl (by kernel_rfl) (by kernel_rfl) (by kernel_rfl) (fun w' s' => .indexArr ar95 rfl rfl (by omega)) rfl rfl ?_
          refine RD.take 4 rfl (by kernel_rfl) (by kernel_rfl) (by kernel_rfl) (fun w' s' => .load1 sh36 rfl ((hb_10.step s' (fun e => e.elim (fun e => e.elim) (fun e => Nat.not_le.2 ltD_b_10 e))).cell (kid_cell hz))) rfl rfl ?_
          refine RD.take 5 rfl (by kernel_rfl) (by kernel_rfl) (by kernel_rfl) (fun w' s' => .move rfl) rfl rfl ?_
          refine RD.take 6 rfl (by kernel_rfl) (by kernel_rfl) (by kernel_rfl) (fun w' s' => .move rfl) rfl rfl ?_
          refine RD.take 7 rfl (by kernel_rfl) (by kernel_rfl) (by kernel_rfl) (fun w' s' => .move rfl) rfl rfl ?_
          refine RD.take 9 rfl (by kernel_rfl) (by kernel_rfl) (by kernel_rfl) (fun w' s' => .move rfl) rfl rfl ?_
          refine RD.take 10 rfl (by kernel_rfl) (by kernel_rfl) (by kernel_rfl) (fun w' s' => .as (.bin rfl rfl rfl) (wi64 (y := ((lv + 1 : Nat) : Int)) (by omega) (by omega))) rfl rfl ?_
          refine RD.all [8] (by kernel_rfl) rfl (RDs.cons rfl ?_ (RDs.nil))
          refine RL.call rfl ok62 (c_refOf9 l a c l.length rfl lv j (by omega) w13 (hl.sub S) hb) rfl rfl ?_
          rintro _ w15 ⟨a1, c1, rfl, o1, s16⟩
          have S := S.trans s16
          have hb_4 := hb_4.sub s16
          have hb_10 := hb_10.sub s16
          have hb_11 := hb_11.sub s16
          have szD := Nat.le_trans szD s16.size
          refine RD.back s16.agr ?_
          refine RD.all [11] (by kernel_rfl) rfl (RDs.cons rfl ?_ (RDs.nil))
          refine RL.call rfl ok32 (ih z (ofL lv j l) a1 c1 _ w15 (hap.of _ _) (List.length_map _) hzu (Nat.le_trans (ofL_len _ _ _) hb) (hA.sub S) o1.sl.1) rfl rfl ?_
          rintro _ w17 ⟨rfl, s18⟩
          have S := S.trans s18
          have hb_4 := hb_4.sub s18
          have hb_10 := hb_10.sub s18
          have hb_11 := hb_11.sub s18
          have szD := Nat.le_trans szD s18.size
          refine RD.back s18.agr ?_
          refine RD.take 12 rfl (by kernel_rfl) (by kernel_rfl) (by kernel_rfl) (fun w' s' => .not rfl) rfl rfl ?_
          refine RD.done (by kernel_rfl) (RC.back ?_)
          refine RC.cond rfl (fun h19 => ?_) (fun h19 => ?_)
          ·
            have hres : isHB A (k + 1) r l = false := isHB_no (fun h => by have h2 := (hti.1 h).2 j hj4; rw [hzd, ← hlv] at h2; have h3 := h19; rw [isHB_yes h2] at h3; cases h3)
            refine RC.seq ?_
            refine RC.region rfl ?_
            refine RL.ev (.assign rfl) rfl rfl ?_
            refine RL.nil (RC.back ?_)
            refine RC.done (rs := [.tmp 8]) (vs := [_]) rfl rfl ⟨rfl, trivial⟩ ?_
            -- end 4
            rw [hres]
            exact ⟨rfl, S⟩
          ·
            have hz1 : IsH A k z (ofL lv j l) := (isHB_iff _ _ _ _).1 (by simpa using h19)
            refine RC.skip (RC.back ?_)
            refine RC.region rfl ?_
            refine RL.ev (.move rfl) rfl rfl ?_
            refine RL.ev (.as (.bin rfl rfl rfl) (wi64 (y := ((j + 1 : Nat) : Int)) (by omega) (by omega))) rfl rfl ?_
            refine RL.ev (.assign rfl) rfl rfl ?_
            exact RL.nil (fun a ka => ⟨j + 1, ⟨⟨by omega, fun q hq' => by by_cases e : q = j; (rw [e, hzd, ← hlv]; exact hz1); exact hq q (by omega)⟩, hb_4, hb_10, hb_11, S⟩, by omega, ka.keep (keep_of (by repeat (first | exact trivial | refine And.intro rfl ?_)))⟩)
        ·
          obtain rfl : j = 4 := (by omega)
          refine RC.exit rfl (RC.back ?_)
          refine RC.seq ?_
          refine RC.region rfl ?_
          refine RL.ev (.loadR (y.cells) sh97 rfl hb_10.row rfl) rfl rfl ?_
          refine RL.ev (.loadR (_) sh97 rfl hb_11.row rfl) rfl rfl ?_
          refine RL.ev (.eqS (xs := _) (ys := _) fk97 eg97 sh97 rfl rfl rfl rfl rfl) rfl rfl ?_
          refine RL.ev (.assign rfl) rfl rfl ?_
          refine RL.nil (RC.back ?_)
          refine RC.done (rs := [.tmp 8]) (vs := [_]) rfl rfl ⟨rfl, trivial⟩ ?_
          -- end 5
          refine ⟨congrArg Value.bool ?_, S⟩
          rw [eqL_cells, Bool.eq_iff_iff, isHB_iff, decide_eq_true_iff, hti]
          exact ⟨fun h => ⟨h, hq⟩, fun h => h.1⟩
set_option maxHeartbeats 1000000 in
theorem c_refIsC (A : Ar) (na fa : Option Addr) (nc fc : Nat) (hnl : A.nodes.length ≤ 1000000000) (r : Int) (l : List It) (hap : Ap l) (a : Option Addr) (c m : Nat) (hm : m = l.length) (hr : U64 r) (hb : l.length ≤ 1000000) (w : World) (hA : ArR w na fa A) (hl : Sl w a 2 (l.map It.cells)) :
    FC Try.prog 32 [arV na fa nc fc A, .int .u64 r, .slice a m c, .int .i64 10] w (Val (.bool (isHB A 0 r l)) w) := by
  subst hm
  have hf := atA_form A r
  have hNd := hA.nodes
  have hFr := hA.free
  have len0 : l.length = 0 → l = [] := List.eq_nil_of_length_eq_zero
  obtain ⟨ms, hmp, hms⟩ := srt_exists hap
  have hmpl := hmp.length_eq
  refine FC.intro Try.func32 rfl Try.ntmps32 rfl ?_
  have S := Sub.refl w
  refine RC.seq ?_
  refine RC.region rfl ?_
  refine RL.box rfl rfl rfl (fun b_4 w_4 e_4 z_4 hb_4 s_4 => ?_)
  have ge_4 := S.le e_4
  have S := S.trans s_4
  have hb_4 : Has w_4 b_4 ([.slice na A.nodes.length nc, .slice fa A.free.length fc]) _ := hb_4
  refine RL.ev (.assign rfl) rfl rfl ?_
  refine RL.nil (RC.back ?_)
  refine RC.seq ?_
  refine RC.seq ?_
  refine RC.region rfl ?_
  refine RL.ev (.move rfl) rfl rfl ?_
  refine RL.ev (.len sl26 rfl) rfl rfl ?_
  refine RL.ev (.bin rfl rfl rfl) rfl rfl ?_
  refine RL.nil (RC.back ?_)
  refine RC.cond_dec rfl (fun h1 => ?_) (fun h1 => ?_)
  ·
    have q0 : l = [] := len0 (by have := h1; omega)
    have hres : isHB A 0 r l = decide (r = 0) := (by rw [q0]; exact isHB_nil _ _ _)
    refine RC.seq ?_
    refine RC.region rfl ?_
    refine RL.ev (.move rfl) rfl rfl ?_
    refine RL.ev (.bin rfl rfl rfl) rfl rfl ?_
    refine RL.ev (.assign rfl) rfl rfl ?_
    refine RL.nil (RC.back ?_)
    refine RC.done (rs := [.tmp 8]) (vs := [_]) rfl rfl ⟨rfl, trivial⟩ ?_
    -- end 1
    rw [hres]
    exact ⟨rfl, S⟩
  ·
    have q0 : ¬ l.length = 0 := (by have := h1; omega)
    refine RC.skip (RC.back ?_)
    refine RC.seq ?_
    refine RC.seq ?_
    refine RC.region rfl ?_
    refine RL.ev (.move rfl) rfl rfl ?_
    refine RL.ev (.len sl26 rfl) rfl rfl ?_
    refine RL.ev (.bin rfl rfl rfl) rfl rfl ?_
    refine RL.nil (RC.back ?_)
    refine RC.cond_dec rfl (fun h2 => ?_) (fun h2 => ?_)
    ·
      have q1 : l.length = 1 := (by have := h2; omega)
      obtain ⟨x, hx1⟩ := List.length_eq_one_iff.1 q1
      have hx : l[0]? = some x := (by rw [hx1]; rfl)
      have hres : isHB A 0 r l = lfB A r x := (by rw [hx1]; exact isHB_one _ _ _ _)
      refine RC.seq ?_
      refine RC.draw rfl mxo (by kernel_rfl) ?_
      refine RQ.ev (.loadR ([.slice na A.nodes.length nc, .slice fa A.free.length fc]) sh34 rfl hb_4.row rfl) rfl rfl ?_
      refine RQ.ev (.move rfl) rfl rfl ?_
      refine RQ.ev (.move rfl) rfl rfl ?_
      refine RQ.ev (.indexS sl26 rfl rfl (by omega) (hl.is (i := 0) (by simp only [List.length_map, List.length_cons, List.length_nil]; omega))) rfl rfl ?_
      refine RQ.ev (.loadR (x.cells) sh29 rfl ((hl.sub S).rowAt (enc := It.cells) (i := 0) hx) rfl) rfl rfl ?_
      refine RQ.call rfl ok60 (fun w' s' => c_refLeaf A na fa nc fc hnl r hr x w' (hA.sub (S.trans s'))) rfl rfl ?_
      refine RQ.ev (.assign rfl) rfl rfl ?_
      refine RQ.nil (fun w3 s4 => RC.back ?_)
      have S := S.trans s4
      have hb_4 := hb_4.sub s4
      refine RC.done (rs := [.tmp 8]) (vs := [_]) rfl rfl ⟨rfl, trivial⟩ ?_
      -- end 2
      rw [hres]
      exact ⟨rfl, S⟩
    ·
      have q1 : 2 ≤ l.length := len_cases q0 (by have := h2; omega)
      refine RC.skip (RC.back ?_)
      refine RC.seq ?_
      refine RC.region rfl ?_
      refine RL.ev (.loadR ([.slice na A.nodes.length nc, .slice fa A.free.length fc]) sh34 rfl hb_4.row rfl) rfl rfl ?_
      refine RL.ev (.move rfl) rfl rfl ?_
      refine RL.call rfl ok61 (c_r4At A na fa nc fc r hr w_4 (hA.sub S) hnl) rfl rfl ?_
      rintro _ w5 ⟨rfl, s6⟩
      have S := S.trans s6
      have hb_4 := hb_4.sub s6
      refine RL.ev (.assign rfl) rfl rfl ?_
      refine RL.nil (RC.back ?_)
      refine RC.seq ?_
      refine RC.seq ?_
      refine RC.region rfl ?_
      refine RL.ev (.move rfl) rfl rfl ?_
      refine RL.ev (.bin rfl rfl rfl) rfl rfl ?_
      refine RL.nil (RC.back ?_)
      refine RC.cond_dec rfl (fun h7 => ?_) (fun h7 => ?_)
      ·
        have hres : isHB A 0 r l = false := isHB_none q1 (hf.1 h7)
        refine RC.seq ?_
        refine RC.region rfl ?_
        refine RL.ev (.assign rfl) rfl rfl ?_
        refine RL.nil (RC.back ?_)
        refine RC.done (rs := [.tmp 8]) (vs := [_]) rfl rfl ⟨rfl, trivial⟩ ?_
        -- end 3
        rw [hres]
        exact ⟨rfl, S⟩
      ·
        obtain ⟨y, hy, hay⟩ := hf.2 h7
        have hrg := getA_rng hy
        have hyo := hA.nok y (getA_nok hy)
        have hci := clash_iff q1 hmp hms hy
        refine RC.skip (RC.back ?_)
        refine RC.seq ?_
        refine RC.region rfl ?_
        refine RL.ev (.field0 fo34_0 rfl) rfl rfl ?_
        refine RL.ev (.load1 sh31 rfl (hb_4.cell rfl)) rfl rfl ?_
        refine RL.ev (.as (v' := .int .i64 (placeR r)) (.move rfl) (by rw [hay])) rfl rfl ?_
        refine RL.ev (.indexS sl31 rfl rfl (by omega) (hNd.is (i := 0) (by simp only [List.length_map, List.length_cons, List.length_nil]; omega))) rfl rfl ?_
        refine RL.ev (.loadR (y.cells) sh97 rfl ((hNd.sub S).rowAt (enc := Node.cells) (getA_get hy).1) rfl) rfl rfl ?_
        refine RL.alloc ze97 rfl rfl (fun b_10 w_10 e_10 z_10 hb_10 s_10 => ?_)
        have ge_10 := S.le e_10
        have n_4__10 := hb_4.ne e_10
        have S := S.trans s_10
        have hb_4 := hb_4.sub s_10
        refine RL.store sh97 rfl rfl rfl hb_10 (by exact Nat.le_of_ble_eq_true rfl) (by rfl) rfl (fun w8 z8 hb_10 a8 => ?_)
        have S := S.upd a8 ge_10
        have hb_4 := hb_4.upd a8 n_4__10
        have hb_10 : Has w8 b_10 (y.cells) _ := hb_10.now (by kernel_rfl)
        refine RL.nil (RC.back ?_)
        refine RC.seq ?_
        refine RC.region rfl ?_
        refine RL.ev (.field0 fo97_1 rfl) rfl rfl ?_
        refine RL.ev (.load1 sh3 rfl (hb_10.cell rfl)) rfl rfl ?_
        refine RL.ev (.move rfl) rfl rfl ?_
        refine RL.ev (.len sl26 rfl) rfl rfl ?_
        refine RL.ev (.buildS ze97 pl97 rfl rfl) rfl rfl ?_
        refine RL.alloc ze97 rfl rfl (fun b_11 w_11 e_11 z_11 hb_11 s_11 => ?_)
        have ge_11 := S.le e_11
        have n_4__11 := hb_4.ne e_11
        have n_10__11 := hb_10.ne e_11
        have S := S.trans s_11
        have hb_4 := hb_4.sub s_11
        have hb_10 := hb_10.sub s_11
        refine RL.store sh97 rfl rfl rfl hb_11 (by exact Nat.le_of_ble_eq_true rfl) (by rfl) rfl (fun w9 z9 hb_11 a9 => ?_)
        have S := S.upd a9 ge_11
        have hb_4 := hb_4.upd a9 n_4__11
        have hb_10 := hb_10.upd a9 n_10__11
        have hb_11 : Has w9 b_11 ((hN 2 y.gen 0 0 l.length (y.kids.take 0)).cells) _ := hb_11.now (by kernel_rfl)
        refine RL.nil (RC.back ?_)
        refine RC.seq ?_
        refine RC.seq ?_
        refine RC.region rfl ?_
        refine RL.ev (.move rfl) rfl rfl ?_
        refine RL.ev (.as (v' := .bool false) (.bin rfl rfl rfl) (congrArg Value.bool (decide_eq_false (by decide)))) rfl rfl ?_
        refine RL.nil (RC.back ?_)
        refine RC.cond_f rfl ?_
        refine RC.skip (RC.back ?_)
        refine RC.seq ?_
        refine RC.seq ?_
        refine RC.region rfl ?_
        refine RL.ev (.move rfl) rfl rfl ?_
        refine RL.ev (.len sl26 rfl) rfl rfl ?_
        refine RL.ev (.bin rfl rfl rfl) rfl rfl ?_
        refine RL.nil (RC.back ?_)
        refine RC.cond_dec rfl (fun h10 => ?_) (fun h10 => ?_)
        ·
          have hres : isHB A 0 r l = false := isHB_no (fun h => by have := (hci.1 h).1; have := h10; omega)
          refine RC.seq ?_
          refine RC.region rfl ?_
          refine RL.ev (.assign rfl) rfl rfl ?_
          refine RL.nil (RC.back ?_)
          refine RC.done (rs := [.tmp 8]) (vs := [_]) rfl rfl ⟨rfl, trivial⟩ ?_
          -- end 4
          rw [hres]
          exact ⟨rfl, S⟩
        ·
          have q9 : l.length ≤ 9 := (by have := h10; omega)
          refine RC.skip (RC.back ?_)
          refine RC.seq ?_
          refine RC.region rfl ?_
          refine RL.ev (.field0 fo97_0 rfl) rfl rfl ?_
          refine RL.store sh3 rfl rfl rfl hb_11 (by exact Nat.le_of_ble_eq_true rfl) (by rfl) rfl (fun w11 z11 hb_11 a11 => ?_)
          have S := S.upd a11 ge_11
          have hb_4 := hb_4.upd a11 n_4__11
          have hb_10 := hb_10.upd a11 n_10__11
          have hb_11 : Has w11 b_11 ((hN 4 y.gen 0 0 l.length (y.kids.take 0)).cells) _ := hb_11
          refine RL.nil (RC.back ?_)
          refine RC.seq ?_
          refine RC.region rfl ?_
          refine RL.buildSlice0 sl26 rfl rfl (fun b_79 w_79 e_79 z_79 hb_79 s_79 => ?_)
          have ge_79 := S.le e_79
          have n_4__79 := hb_4.ne e_79
          have n_10__79 := hb_10.ne e_79
          have n_11__79 := hb_11.ne e_79
          have S := S.trans s_79
          have hb_4 := hb_4.sub s_79
          have hb_10 := hb_10.sub s_79
          have hb_11 := hb_11.sub s_79
          refine RL.ev (.assign rfl) rfl rfl ?_
          refine RL.nil (RC.back ?_)
          refine RC.seq ?_
          refine RC.region rfl ?_
          refine RL.ev (.move rfl) rfl rfl ?_
          refine RL.ev (.move rfl) rfl rfl ?_
          have sz_82 := S.size
          have ltb_4_82 := hb_4.lt
          have ltb_10_82 := hb_10.lt
          have ltb_11_82 := hb_11.lt
          have ltb_79_82 := hb_79.lt
          refine RL.append2 (base := w.heap.size) (rows := []) (news := l.map It.cells) sl26 ze29 rfl rfl rfl rfl (.inl (Ows.lit0 hb_79 (by omega))) (hl.sub S) (by (try simp only [List.length_map]); first | done | rfl) (by intro r hr; obtain ⟨x, _, rfl⟩ := List.mem_map.1 hr; rfl) (by rw [List.all_eq_true]; intro r hr; obtain ⟨x, _, rfl⟩ := List.mem_map.1 hr; rfl) (by (try simp only [List.length_map, List.length_nil, List.length_append, List.length_cons]); omega) (by (try simp only [List.length_map, List.length_nil, List.length_append, List.length_cons]); omega) (by omega) rfl rfl (fun v_82 w_82 hc_82 ho_82 ag_82 ob_82 => ?_)
          have o82 := ho_82 (.inr (Ows.lit0 hb_79 (by omega)))
          have d_o82_b_4 := obNe ob_82 (fun k hk e => n_4__79.symm ((obLit hk).trans e)) hb_4.lt
          have d_o82_b_10 := obNe ob_82 (fun k hk e => n_10__79.symm ((obLit hk).trans e)) hb_10.lt
          have d_o82_b_11 := obNe ob_82 (fun k hk e => n_11__79.symm ((obLit hk).trans e)) hb_11.lt
          have S := S.agrN ag_82 (fun k e => Nat.le_trans (by omega) e.2)
          have hb_4 := hb_4.step ag_82 (fun e => n_4__79.symm (obLit e.1))
          have hb_10 := hb_10.step ag_82 (fun e => n_10__79.symm (obLit e.1))
          have hb_11 := hb_11.step ag_82 (fun e => n_11__79.symm (obLit e.1))
          obtain ⟨a_82, c_82, rfl, k_82⟩ := o82.form
          refine RL.ev (.assign rfl) rfl rfl ?_
          rw [List.nil_append] at o82
          refine RL.nil (RC.back ?_)
          refine RC.seq ?_
          refine RC.seq ?_
          refine RC.region rfl ?_
          refine RL.ev (.move rfl) rfl rfl ?_
          refine RL.ev (.len sl26 rfl) rfl rfl ?_
          refine RL.ev (.move rfl) rfl rfl ?_
          refine RL.nil (RC.back ?_)
          refine RC.block ?_
          refine RC.loop (α := Nat × List It × Option Addr × Nat × Nat) (fun x => [(4, .pointer (some ⟨b_4, 0, none⟩)), (10, .pointer (some ⟨b_10, 0, none⟩)), (11, .pointer (some ⟨b_11, 0, none⟩)), (13, .slice x.2.2.1 x.2.2.2.1 x.2.2.2.2), (84, .int .i64 (l.length : Int)), (85, .int .i64 (x.1 : Int))]) (fun x w12 => (x.1 ≤ l.length ∧ x.2.1.Perm (ms.drop x.1) ∧ ∀ j z, j < x.1 → ms[j]? = some z → lfA A (y.kids.getD j 0) z) ∧ Ows w.heap.size w12 29 2 (.slice x.2.2.1 x.2.2.2.1 x.2.2.2.2) (x.2.1.map It.cells) ∧ Has w12 b_4 [.slice na A.nodes.length nc, .slice fa A.free.length fc] 34 ∧ Has w12 b_10 y.cells 97 ∧ Has w12 b_11 (hN 4 y.gen 0 0 l.length (y.kids.take x.1)).cells 97 ∧ (∀ k, ob (.slice x.2.2.1 x.2.2.2.1 x.2.2.2.2) = some k → k ≠ b_4 ∧ k ≠ b_10 ∧ k ≠ b_11) ∧ Sub w w12) (fun x => l.length - x.1) (0, l, a_82, _, c_82) (keep_of (by repeat (first | exact trivial | refine And.intro rfl ?_))) (⟨⟨Nat.zero_le _, hmp.symm, fun j z h => absurd h (by simp only []; omega)⟩, o82, hb_4, hb_10, hb_11, fun k hk => ⟨d_o82_b_4 k hk, d_o82_b_10 k hk, d_o82_b_11 k hk⟩, S⟩) (fun x w12 hJ => ?_)
          obtain ⟨i, rest, ar, mr, cr⟩ := x; obtain ⟨⟨hi, hrp, hlo⟩, o, hb_4, hb_10, hb_11, dd, S⟩ := hJ; simp only [] at hi hrp hlo o hb_11 dd; obtain rfl := o.sl.2; have szB := S.size; have hrl := hrp.length_eq; rw [List.length_drop] at hrl; have dd4 : ∀ k, ob (.slice ar (rest.map It.cells).length cr) = some k → k ≠ b_4 := fun k hk => (dd k hk).1; have dd10 : ∀ k, ob (.slice ar (rest.map It.cells).length cr) = some k → k ≠ b_10 := fun k hk => (dd k hk).2.1; have dd11 : ∀ k, ob (.slice ar (rest.map It.cells).length cr) = some k → k ≠ b_11 := fun k hk => (dd k hk).2.2
          refine RC.seq ?_
          refine RC.region rfl ?_
          refine RL.ev (.bin rfl rfl rfl) rfl rfl ?_
          refine RL.nil (RC.back ?_)
          refine RC.seq ?_
          refine RC.cond_dec rfl (fun h13 => ?_) (fun h13 => ?_)
          ·
            have h86 := h13
            simp only [] at h86
            have hi9 : i < 9 := (by omega)
            obtain ⟨z, hz⟩ := getSome (l := y.kids) (i := i) hi9
            have hzd := kid_get hz
            have hzu := hyo.kids z (List.mem_of_getElem? hz)
            refine RC.skip (RC.back ?_)
            refine RC.seq ?_
            refine RC.block ?_
            refine RC.seq ?_
            refine RC.region rfl ?_
            refine RL.ev (.move rfl) rfl rfl ?_
            refine RL.ev (.assign rfl) rfl rfl ?_
            refine RL.nil (RC.back ?_)
            refine RC.seq ?_
            refine RC.region rfl ?_
            refine RL.ev (.move rfl) rfl rfl ?_
            refine RL.ev (.move rfl) rfl rfl ?_
            refine RL.ev (.field0 fo97_5 rfl) rfl rfl ?_
            refine RL.ev (.indexArr ar95 rfl rfl (by omega)) rfl rfl ?_
            refine RL.ev (.load1 sh36 rfl (hb_10.cell (kid_cell hz))) rfl rfl ?_
            refine RL.ev (.field0 fo97_5 rfl) rfl rfl ?_
            refine RL.ev (.indexArr ar95 rfl rfl (by omega)) rfl rfl ?_
            refine RL.store sh36 rfl rfl rfl hb_11 (by show 5 + i * 1 + 1 ≤ 16; omega) (by rfl) rfl (fun w14 z14 hb_11 a14 => ?_)
            have S := S.upd a14 ge_11
            have o := o.updD a14 dd11
            have hb_4 := hb_4.upd a14 n_4__11
            have hb_10 := hb_10.upd a14 n_10__11
            have szB := Nat.le_trans szB a14.size
            have hb_11 : Has w14 b_11 (hN 4 y.gen 0 0 l.length (y.kids.take (i + 1))).cells 97 := (by rw [← kids_set 4 y.gen l.length y i hi9 hz]; exact hb_11)
            refine RL.nil (RC.back ?_)
            refine RC.seq ?_
            refine RC.region rfl ?_
            refine RL.ev (.move rfl) rfl rfl ?_
            refine RL.call rfl ok63 (c_refLeast rest ar cr _ (List.length_map _) (by omega) w14 o.sl.1 (by omega)) rfl rfl ?_
            rintro _ w15 ⟨s16, n, x, rfl, hn, hle⟩
            have S := S.trans s16
            have o := o.sub s16
            have hb_4 := hb_4.sub s16
            have hb_10 := hb_10.sub s16
            have hb_11 := hb_11.sub s16
            have szB := Nat.le_trans szB s16.size
            obtain ⟨hmi, hrp2⟩ := least_is hms hrp hn hle
            have hnl2 := lt_of_get hn
            refine RL.ev (.assign rfl) rfl rfl ?_
            refine RL.nil (RC.back ?_)
            refine RC.seq ?_
            refine RC.seq ?_
            refine RC.draw rfl mxo (by kernel_rfl) ?_
            refine RQ.ev (.loadR ([.slice na A.nodes.length nc, .slice fa A.free.length fc]) sh34 rfl hb_4.row rfl) rfl rfl ?_
            refine RQ.ev (.move rfl) rfl rfl ?_
            refine RQ.ev (.field0 fo97_5 rfl) rfl rfl ?_
            refine RQ.ev (.indexArr ar95 rfl rfl (by omega)) rfl rfl ?_
            refine RQ.ev (.load1 sh36 rfl (hb_10.cell (kid_cell hz))) rfl rfl ?_
            refine RQ.ev (.move rfl) rfl rfl ?_
            refine RQ.ev (.move rfl) rfl rfl ?_
            refine RQ.ev (.indexS sl26 rfl rfl (by refine ⟨by omega, ?_⟩; show (n : Int) < ((rest.map It.cells).length : Nat); rw [List.length_map]; omega) (o.sl.1.is (i := 0) (by simp only [List.length_map, List.length_cons, List.length_nil]; omega))) rfl rfl ?_
            refine RQ.ev (.loadR (x.cells) sh29 rfl ((o.sl.1).rowAt (enc := It.cells) (i := n) hn) rfl) rfl rfl ?_
            refine RQ.call rfl ok60 (fun w' s' => c_refLeaf A na fa nc fc hnl z hzu x w' (hA.sub (S.trans s'))) rfl rfl ?_
            refine RQ.ev (.not rfl) rfl rfl ?_
            refine RQ.nil (fun w17 s18 => RC.back ?_)
            have S := S.trans s18
            have o := o.sub s18
            have hb_4 := hb_4.sub s18
            have hb_10 := hb_10.sub s18
            have hb_11 := hb_11.sub s18
            have szB := Nat.le_trans szB s18.size
            refine RC.cond rfl (fun h19 => ?_) (fun h19 => ?_)
            ·
              have hres : isHB A 0 r l = false := isHB_no (fun h => by have h2 := (hci.1 h).2.2 i x hmi; rw [hzd] at h2; have h3 := h19; rw [(lfB_iff _ _ _).2 h2] at h3; cases h3)
              refine RC.seq ?_
              refine RC.region rfl ?_
              refine RL.ev (.assign rfl) rfl rfl ?_
              refine RL.nil (RC.back ?_)
              refine RC.done (rs := [.tmp 8]) (vs := [_]) rfl rfl ⟨rfl, trivial⟩ ?_
              -- end 5
              rw [hres]
              exact ⟨rfl, S⟩
            ·
              have hlx : lfA A z x := (lfB_iff _ _ _).1 (by simpa using h19)
              have hcr : rest.length ≤ cr := (by obtain ⟨_, c', e, h⟩ := o.form; cases e; rw [List.length_map] at h; exact h)
              have ht1 : (rest.take n).length = n := (by rw [List.length_take]; omega)
              have ht2 : (rest.drop (n + 1)).length = rest.length - (n + 1) := List.length_drop
              refine RC.skip (RC.back ?_)
              refine RC.seq ?_
              refine RC.region rfl ?_
              refine RL.buildSlice0 sl26 rfl rfl (fun b_108 w_108 e_108 z_108 hb_108 s_108 => ?_)
              have ge_108 := S.le e_108
              have n_4__108 := hb_4.ne e_108
              have n_10__108 := hb_10.ne e_108
              have n_11__108 := hb_11.ne e_108
              have d_o_b_108 := o.neNew e_108
              have S := S.trans s_108
              have o := o.sub s_108
              have hb_4 := hb_4.sub s_108
              have hb_10 := hb_10.sub s_108
              have hb_11 := hb_11.sub s_108
              have szB := Nat.le_trans szB s_108.size
              refine RL.ev (.assign rfl) rfl rfl ?_
              refine RL.nil (RC.back ?_)
              refine RC.seq ?_
              refine RC.region rfl ?_
              refine RL.ev (.move rfl) rfl rfl ?_
              refine RL.ev (.move rfl) rfl rfl ?_
              refine RL.ev (.move rfl) rfl rfl ?_
              refine RL.ev (.as (v' := .slice ar (rest.take n).length cr) (.sliceHi sl26 rfl rfl (by simp only []; omega)) (by rw [List.length_take, Nat.min_eq_left (by omega)]; rfl)) rfl rfl ?_
              have sz_113 := S.size
              have ltb_4_113 := hb_4.lt
              have ltb_10_113 := hb_10.lt
              have ltb_11_113 := hb_11.lt
              have ltb_108_113 := hb_108.lt
              refine RL.append2 (base := w.heap.size) (rows := []) (news := (rest.take n).map It.cells) sl26 ze29 rfl rfl rfl rfl (.inl (Ows.lit0 hb_108 (by omega))) (slTakeM o.sl.1 n) (by (try simp only [List.length_map]); first | done | rfl) (by intro r hr; obtain ⟨x, _, rfl⟩ := List.mem_map.1 hr; rfl) (by rw [List.all_eq_true]; intro r hr; obtain ⟨x, _, rfl⟩ := List.mem_map.1 hr; rfl) (by (try simp only [List.length_map, List.length_nil, List.length_append, List.length_cons]); omega) (by (try simp only [List.length_map, List.length_nil, List.length_append, List.length_cons]); omega) (by omega) rfl rfl (fun v_113 w_113 hc_113 ho_113 ag_113 ob_113 => ?_)
              have o113 := ho_113 (.inr (Ows.lit0 hb_108 (by omega)))
              have dd_o113_o := obDD ob_113 (fun k hk h2 => d_o_b_108 k h2 (obLit hk).symm) (fun k hk => (o.ge k hk).2)
              have d_o113_b_4 := obNe ob_113 (fun k hk e => n_4__108.symm ((obLit hk).trans e)) hb_4.lt
              have d_o113_b_10 := obNe ob_113 (fun k hk e => n_10__108.symm ((obLit hk).trans e)) hb_10.lt
              have d_o113_b_11 := obNe ob_113 (fun k hk e => n_11__108.symm ((obLit hk).trans e)) hb_11.lt
              have S := S.agrN ag_113 (fun k e => Nat.le_trans (by omega) e.2)
              have o := o.step ag_113 (fun k hk e => (fun k hk h2 => d_o_b_108 k h2 (obLit hk).symm) k e.1 hk)
              have hb_4 := hb_4.step ag_113 (fun e => n_4__108.symm (obLit e.1))
              have hb_10 := hb_10.step ag_113 (fun e => n_10__108.symm (obLit e.1))
              have hb_11 := hb_11.step ag_113 (fun e => n_11__108.symm (obLit e.1))
              have szB := Nat.le_trans szB ag_113.size
              obtain ⟨a_113, c_113, rfl, k_113⟩ := o113.form
              refine RL.ev (.assign rfl) rfl rfl ?_
              rw [List.nil_append] at o113
              refine RL.nil (RC.back ?_)
              refine RC.seq ?_
              refine RC.region rfl ?_
              refine RL.ev (.move rfl) rfl rfl ?_
              refine RL.ev (.move rfl) rfl rfl ?_
              refine RL.ev (.move rfl) rfl rfl ?_
              refine RL.ev (.as (.bin rfl rfl rfl) (wi64 (y := ((n + 1 : Nat) : Int)) (by omega) (by omega))) rfl rfl ?_
              refine RL.ev (.as (v' := .slice (if cr = n + 1 then ar else ar.map (·.add ((n + 1) * 2))) (rest.drop (n + 1)).length (cr - (n + 1))) (.sliceLo sl26 rfl rfl (by simp only [List.length_map]; omega)) (by rw [List.length_drop]; first | rfl | (simp only [List.length_map]; rfl))) rfl rfl ?_
              have sz_119 := S.size
              have ltb_4_119 := hb_4.lt
              have ltb_10_119 := hb_10.lt
              have ltb_11_119 := hb_11.lt
              refine RL.append2 (base := w.heap.size) (rows := (rest.take n).map It.cells) (news := (rest.drop (n + 1)).map It.cells) sl26 ze29 rfl rfl rfl rfl (.inl o113) (slDropM o.sl.1 (n + 1) hcr) (by (try simp only [List.length_map]); first | done | rfl) (by intro r hr; obtain ⟨x, _, rfl⟩ := List.mem_map.1 hr; rfl) (by rw [List.all_eq_true]; intro r hr; obtain ⟨x, _, rfl⟩ := List.mem_map.1 hr; rfl) (by (try simp only [List.length_map, List.length_nil, List.length_append, List.length_cons]); omega) (by (try simp only [List.length_map, List.length_nil, List.length_append, List.length_cons]); omega) (by omega) rfl rfl (fun v_119 w_119 hc_119 ho_119 ag_119 ob_119 => ?_)
              have o119 := ho_119 (.inr o113)
              have dd_o119_o := obDD ob_119 dd_o113_o (fun k hk => (o.ge k hk).2)
              have d_o119_b_4 := obNe ob_119 d_o113_b_4 hb_4.lt
              have d_o119_b_10 := obNe ob_119 d_o113_b_10 hb_10.lt
              have d_o119_b_11 := obNe ob_119 d_o113_b_11 hb_11.lt
              have S := S.agrN ag_119 (fun k e => Nat.le_trans (by omega) e.2)
              have o := o.step ag_119 (fun k hk e => dd_o113_o k e.1 hk)
              have hb_4 := hb_4.step ag_119 (fun e => d_o113_b_4 _ e.1 rfl)
              have hb_10 := hb_10.step ag_119 (fun e => d_o113_b_10 _ e.1 rfl)
              have hb_11 := hb_11.step ag_119 (fun e => d_o113_b_11 _ e.1 rfl)
              have szB := Nat.le_trans szB ag_119.size
              obtain ⟨a_119, c_119, rfl, k_119⟩ := o119.form
              refine RL.ev (.assign rfl) rfl rfl ?_
              refine RL.nil (RC.back ?_)
              refine RC.region rfl ?_
              refine RL.ev (.move rfl) rfl rfl ?_
              refine RL.ev (.assign rfl) rfl rfl ?_
              refine RL.nil (RC.back ?_)
              refine RC.region rfl ?_
              refine RL.ev (.as (.bin rfl rfl rfl) (wi64 (y := ((i + 1 : Nat) : Int)) (by simp only []; omega) (by omega))) rfl rfl ?_
              refine RL.ev (.move rfl) rfl rfl ?_
              exact RL.nil (fun a ka => ⟨(i + 1, rest.take n ++ rest.drop (n + 1), a_119, _, c_119), ⟨⟨by simp only []; omega, hrp2, fun j t hj ht => by simp only [] at hj; by_cases e : j = i; (rw [e, hmi] at ht; cases ht; rw [e, hzd]; exact hlx); exact hlo j t (by omega) ht⟩, by show Ows _ _ _ _ _ ((rest.take n ++ rest.drop (n + 1)).map It.cells); rw [List.map_append]; exact o119, hb_4, hb_10, hb_11, fun k hk => ⟨d_o119_b_4 k hk, d_o119_b_10 k hk, d_o119_b_11 k hk⟩, S⟩, by simp only []; omega, ka.keep (keep_of (by repeat (first | exact trivial | refine And.intro rfl ?_)))⟩)
          ·
            have h86 := h13
            simp only [] at h86
            obtain rfl : i = l.length := (by omega)
            refine RC.exit rfl (RC.back ?_)
            refine RC.seq ?_
            refine RC.region rfl ?_
            refine RL.ev (.loadR (y.cells) sh97 rfl hb_10.row rfl) rfl rfl ?_
            refine RL.ev (.loadR (_) sh97 rfl hb_11.row rfl) rfl rfl ?_
            refine RL.ev (.eqS (xs := _) (ys := _) fk97 eg97 sh97 rfl rfl rfl rfl rfl) rfl rfl ?_
            refine RL.ev (.assign rfl) rfl rfl ?_
            refine RL.nil (RC.back ?_)
            refine RC.done (rs := [.tmp 8]) (vs := [_]) rfl rfl ⟨rfl, trivial⟩ ?_
            -- end 6
            refine ⟨congrArg Value.bool ?_, S⟩
            rw [eqL_cells, Bool.eq_iff_iff, isHB_iff, decide_eq_true_iff, hci, hmpl]
            exact ⟨fun h => ⟨q9, h, fun j t ht => hlo j t (by have := lt_of_get ht; omega) ht⟩, fun h => h.2.1⟩
theorem c_refIsH (A : Ar) (na fa : Option Addr) (nc fc : Nat) (hnl : A.nodes.length ≤ 1000000000) : ∀ (k lv : Nat) (r : Int) (l : List It) (a : Option Addr) (c m : Nat) (w : World), k ≤ 10 → lv = 10 - k → Ap l → m = l.length → U64 r → l.length ≤ 1000000 → ArR w na fa A → Sl w a 2 (l.map It.cells) →
    FC Try.prog 32 [arV na fa nc fc A, .int .u64 r, .slice a m c, .int .i64 (lv : Int)] w (Val (.bool (isHB A k r l)) w)
  | 0, lv, r, l, a, c, m, w, hk, hlv, hap, hm, hr, hb, hA, hl => by
    obtain rfl : lv = 10 := by omega
    exact c_refIsC A na fa nc fc hnl r l hap a c m hm hr hb w hA hl
  | k + 1, lv, r, l, a, c, m, w, hk, hlv, hap, hm, hr, hb, hA, hl =>
    c_refIsT A na fa nc fc hnl k lv (by omega) (by omega) r l hap a c m hm hr hb w hA hl (fun r' l' a' c' m' w' h1 h2 h3 h4 h5 h6 => c_refIsH A na fa nc fc hnl k (lv + 1) r' l' a' c' m' w' (by omega) (by omega) h1 h2 h3 h4 h5 h6)
end Go.Proofs.Ytbfjobmebkhblaa
set_option linter.unusedVariables false
set_option linter.unusedSimpArgs false
namespace Go.Proofs.Ytbfjobmebkhblaa
open Go Go.XL
theorem IsH.some {A : Ar} {k : Nat} {r : Int} {L : List It} (h : IsH A k r L) (hl : ¬ L = []) : ∃ y, getA A r = some y := by
  rcases row_cases L with rfl | ⟨x, rfl⟩ | h2
  · exact absurd rfl hl
  · obtain ⟨g, e⟩ := isH_one.1 h; exact ⟨_, e⟩
  · obtain ⟨_, _, _, _, e⟩ := h.node h2; exact ⟨_, e⟩
end Go.Proofs.Ytbfjobmebkhblaa
set_option linter.unusedVariables false
set_option linter.unusedSimpArgs false
namespace Go.Proofs.Ytbfjobmebkhblaa
open Go Go.XL
abbrev Rh := List Int × List It × Bool
end Go.Proofs.Ytbfjobmebkhblaa
set_option linter.unusedVariables false
set_option linter.unusedSimpArgs false
namespace Go.Proofs.Ytbfjobmebkhblaa
open Go Go.XL
/-- what is kept while a table is read -/
structure RhOk (N : Nat) (t : Rh) : Prop where
  nd : t.1.Nodup
  rng : ∀ p ∈ t.1, 0 ≤ p ∧ p < N
  row : t.2.1.length ≤ t.1.length
theorem RhOk.len {N : Nat} {t : Rh} (h : RhOk N t) : t.1.length ≤ N := pigeon N t.1 h.nd h.rng
theorem RhOk.off {N : Nat} {t : Rh} (h : RhOk N t) : RhOk N (t.1, t.2.1, false) := ⟨h.nd, h.rng, h.row⟩
theorem RhOk.add {N : Nat} {t : Rh} (h : RhOk N t) {p : Int} (hp : 0 ≤ p ∧ p < N) (hn : ¬ p ∈ t.1) (b : Bool) : RhOk N (t.1 ++ [p], t.2.1, b) := by
  refine ⟨List.nodup_append.2 ⟨h.nd, by simp, fun a ha c hc e => ?_⟩, fun q hq => ?_, ?_⟩
  · rw [List.mem_singleton.1 hc] at e; exact hn (e ▸ ha)
  · rcases List.mem_append.1 hq with hq | hq
    · exact h.rng q hq
    · rw [List.mem_singleton.1 hq]; exact hp
  · have := h.row; rw [List.length_append]; simp only [List.length_singleton]; omega
end Go.Proofs.Ytbfjobmebkhblaa
set_option linter.unusedVariables false
set_option linter.unusedSimpArgs false
namespace Go.Proofs.Ytbfjobmebkhblaa
open Go Go.XL
def refOk (n : Nat) (r : Int) : Prop := r = 0 ∨ ∃ j : Nat, r = (j : Int) + 1 ∧ j < n
theorem refOk.u64 {n : Nat} {r : Int} (h : refOk n r) (hn : n ≤ 1000000) : U64 r := by
  rcases h with rfl | ⟨j, rfl, h⟩
  · exact zu64
  · unfold U64; omega
theorem refOk.right {n : Nat} {r : Int} (h : refOk n r) (hn : n ≤ 512) : rightR r = true := by
  rcases h with rfl | ⟨j, rfl, h⟩
  · exact (show rightR 0 = true by decide)
  · exact (place_of_at (a := j) (by omega)).2.2.2
/-- nodes that are laid -/
def GoodH (n : Nat) (l : List It) (y : Node) : Prop := ¬ y.kind = 0 ∧ (n ≤ 512 → well y = true) ∧ ((∀ z ∈ l, z.ok) → y.ok)
theorem GoodH.mono {n : Nat} {l m : List It} {y : Node} (h : GoodH n l y) (hm : ∀ z ∈ l, z ∈ m) : GoodH n m y := ⟨h.1, h.2.1, fun hz => h.2.2 fun z q => hz z (hm z q)⟩
structure LyH (ns : List Node) (at_ k : Nat) (l : List It) (ns' : List Node) (r : Int) : Prop where
  len : ns'.length = ns.length
  same : ∀ i : Nat, (i < at_ ∨ at_ + cnt k l ≤ i) → ns'[i]? = ns[i]?
  isH : ns.length ≤ 512 → ∀ A : Ar, (∀ i : Nat, at_ ≤ i → i < at_ + cnt k l → A.nodes[i]? = ns'[i]?) → IsH A k r l
  good : ∀ (i : Nat) y, at_ ≤ i → i < at_ + cnt k l → ns'[i]? = some y → GoodH ns.length l y
  ref : refOk ns.length r
/-- tables that are laid one behind the other -/
structure LyF (ns : List Node) (at_ k : Nat) (ps : List (List It)) (ns' : List Node) (ks : List Int) : Prop where
  kl : ks.length = ps.length
  len : ns'.length = ns.length
  same : ∀ i : Nat, (i < at_ ∨ at_ + (ps.map (cnt k)).sum ≤ i) → ns'[i]? = ns[i]?
  isH : ns.length ≤ 512 → ∀ A : Ar, (∀ i : Nat, at_ ≤ i → i < at_ + (ps.map (cnt k)).sum → A.nodes[i]? = ns'[i]?) → ∀ j, j < ps.length → IsH A k (ks.getD j 0) (ps.getD j [])
  good : ∀ (i : Nat) y, at_ ≤ i → i < at_ + (ps.map (cnt k)).sum → ns'[i]? = some y → GoodH ns.length ps.flatten y
  ref : ∀ z ∈ ks, refOk ns.length z
theorem LyF.nil (ns : List Node) (at_ k : Nat) : LyF ns at_ k [] ns [] :=
  ⟨rfl, rfl, fun _ _ => rfl, fun _ _ _ j h => absurd h (by simp), fun i y h1 h2 => absurd h2 (by simp; omega), fun z h => by cases h⟩
theorem getD_snoc {α : Type} {l : List α} {x d : α} {j n : Nat} (hl : l.length = n) : (j < n → (l ++ [x]).getD j d = l.getD j d) ∧ (l ++ [x]).getD n d = x := by
  subst hl
  constructor
  · intro h; rw [List.getD_eq_getElem?_getD, List.getD_eq_getElem?_getD, List.getElem?_append_left h]
  · rw [List.getD_eq_getElem?_getD, List.getElem?_append_right (Nat.le_refl _), Nat.sub_self]; rfl
theorem sum_snoc (l : List Nat) (x : Nat) : (l ++ [x]).sum = l.sum + x := by simp [List.sum_append]
theorem LyF.step {ns n1 n2 : List Node} {at_ k a1 : Nat} {ps : List (List It)} {ks : List Int} {q : List It} {r : Int} (h : LyF ns at_ k ps n1 ks) (ha : a1 = at_ + (ps.map (cnt k)).sum) (g : LyH n1 a1 k q n2 r) : LyF ns at_ k (ps ++ [q]) n2 (ks ++ [r]) := by
  subst ha
  have es : ((ps ++ [q]).map (cnt k)).sum = (ps.map (cnt k)).sum + cnt k q := by rw [List.map_append]; exact sum_snoc _ _
  have hl := h.len
  refine ⟨by rw [List.length_append, List.length_append, h.kl]; rfl, by rw [g.len, h.len], fun i hi => ?_, fun h5 A hA j hj => ?_, fun i y h1 h2 hy => ?_, fun z hz => ?_⟩
  · rw [es] at hi
    rw [g.same i (by omega), h.same i (by omega)]
  · rw [es] at hA
    rw [List.length_append] at hj
    by_cases e : j < ps.length
    · rw [(getD_snoc h.kl).1 e, (getD_snoc rfl).1 e]
      exact h.isH h5 A (fun i h1 h2 => by rw [hA i h1 (by omega), g.same i (by omega)]) j e
    · obtain rfl : j = ps.length := by simp at hj; omega
      rw [(getD_snoc (j := 0) h.kl).2, (getD_snoc (j := 0) rfl).2]
      exact g.isH (by rw [hl]; exact h5) A (fun i h1 h2 => hA i (by omega) (by omega))
  · rw [es] at h2
    by_cases e : i < at_ + (ps.map (cnt k)).sum
    · rw [g.same i (by omega)] at hy
      exact (h.good i y h1 e hy).mono fun z hz => by rw [List.flatten_append]; exact List.mem_append_left _ hz
    · have := g.good i y (by omega) (by omega) hy
      rw [hl] at this
      exact this.mono fun z hz => by rw [List.flatten_append]; exact List.mem_append_right _ (by simpa using hz)
  · rcases List.mem_append.1 hz with hz | hz
    · exact h.ref z hz
    · rw [List.mem_singleton.1 hz, ← hl]; exact g.ref
end Go.Proofs.Ytbfjobmebkhblaa
set_option linter.unusedVariables false
set_option linter.unusedSimpArgs false
namespace Go.Proofs.Ytbfjobmebkhblaa
open Go Go.XL
theorem c_refAt6 (l : List It) (a : Option Addr) (c m : Nat) (hm : m = l.length) (key : Int) (w : World) (hl : Sl w a 2 (l.map It.cells)) (hb : l.length ≤ 1000000) :
    FC Try.prog 20 [.slice a m c, .int .i64 key] w (fun v w' => Sub w w' ∧ ∃ n, v = .int .i64 n ∧ (n < 0 ∧ hasK l key = false ∨ 0 ≤ n ∧ hasK l key = true ∧ ∃ y, l[n.toNat]? = some y ∧ y.k = key)) := by
  subst hm
  refine FC.intro Try.func20 rfl Try.ntmps20 rfl ?_
  have S := Sub.refl w
  refine RC.seq ?_
  refine RC.region rfl ?_
  refine RL.ev (.assign rfl) rfl rfl ?_
  refine RL.nil (RC.back ?_)
  refine RC.seq ?_
  refine RC.seq ?_
  refine RC.region rfl ?_
  refine RL.ev (.move rfl) rfl rfl ?_
  refine RL.ev (.len sl26 rfl) rfl rfl ?_
  refine RL.ev (.move rfl) rfl rfl ?_
  refine RL.nil (RC.back ?_)
  refine RC.block ?_
  refine RC.loop (α := Nat) (fun i => [(1, .int .i64 key), (7, .slice a l.length c), (8, .int .i64 (l.length : Int)), (9, .int .i64 (i : Int))]) (fun i w1 => (i ≤ l.length ∧ ∀ y ∈ l.take i, ¬ y.k = key) ∧ Sub w w1) (fun i => l.length - i) 0 (keep_of (by repeat (first | exact trivial | refine And.intro rfl ?_))) (⟨⟨Nat.zero_le _, by simp⟩, S⟩) (fun i w1 hJ => ?_)
  obtain ⟨⟨hi, hp⟩, S⟩ := hJ
  refine RC.seq ?_
  refine RC.region rfl ?_
  refine RL.ev (.bin rfl rfl rfl) rfl rfl ?_
  refine RL.nil (RC.back ?_)
  refine RC.seq ?_
  refine RC.cond_dec rfl (fun h2 => ?_) (fun h2 => ?_)
  ·
    obtain ⟨x, hx⟩ := getSome (l := l) (i := i) (by omega)
    refine RC.skip (RC.back ?_)
    refine RC.seq ?_
    refine RC.block ?_
    refine RC.seq ?_
    refine RC.region rfl ?_
    refine RL.ev (.move rfl) rfl rfl ?_
    refine RL.ev (.indexS sl26 rfl rfl (by omega) (hl.is (i := 0) (by simp only [List.length_map, List.length_cons, List.length_nil]; omega))) rfl rfl ?_
    refine RL.ev (.loadR (x.cells) sh29 rfl ((hl.sub S).rowAt (enc := It.cells) (i := i) hx) rfl) rfl rfl ?_
    refine RL.alloc ze29 rfl rfl (fun b_6 w_6 e_6 z_6 hb_6 s_6 => ?_)
    have ge_6 := S.le e_6
    have S := S.trans s_6
    refine RL.ev (.assign rfl) rfl rfl ?_
    refine RL.store sh29 rfl rfl rfl hb_6 (by exact Nat.le_of_ble_eq_true rfl) (by rfl) rfl (fun w3 z3 hb_6 a3 => ?_)
    have S := S.upd a3 ge_6
    have hb_6 : Has w3 b_6 (x.cells) _ := hb_6.now (by kernel_rfl)
    refine RL.nil (RC.back ?_)
    refine RC.seq ?_
    refine RC.region rfl ?_
    refine RL.ev (.field0 fo29_0 rfl) rfl rfl ?_
    refine RL.ev (.load1 sh2 rfl (hb_6.cell rfl)) rfl rfl ?_
    refine RL.ev (.move rfl) rfl rfl ?_
    refine RL.ev (.bin rfl rfl rfl) rfl rfl ?_
    refine RL.nil (RC.back ?_)
    refine RC.cond_dec rfl (fun h4 => ?_) (fun h4 => ?_)
    ·
      have hk := h4
      refine RC.seq ?_
      refine RC.region rfl ?_
      refine RL.ev (.move rfl) rfl rfl ?_
      refine RL.ev (.assign rfl) rfl rfl ?_
      refine RL.nil (RC.back ?_)
      refine RC.done (rs := [.tmp 4]) (vs := [_]) rfl rfl ⟨rfl, trivial⟩ ?_
      -- end 1
      exact ⟨S, _, rfl, .inr ⟨by omega, hasK_iff.2 ⟨x, List.mem_of_getElem? hx, hk⟩, x, hx, hk⟩⟩
    ·
      have hk := h4
      refine RC.skip (RC.back ?_)
      refine RC.region rfl ?_
      refine RL.ev (.as (.bin rfl rfl rfl) (wi64 (y := ((i + 1 : Nat) : Int)) (by omega) (by omega))) rfl rfl ?_
      refine RL.ev (.move rfl) rfl rfl ?_
      exact RL.nil (fun a ka => ⟨i + 1, ⟨⟨by omega, fun y hy => by rw [List.take_add_one, hx] at hy; rcases List.mem_append.1 hy with hy | hy; exact hp y hy; (have e : y = x := (by simpa using hy)); rw [e]; exact hk⟩, S⟩, by omega, ka.keep (keep_of (by repeat (first | exact trivial | refine And.intro rfl ?_)))⟩)
  ·
    obtain rfl : i = l.length := (by omega)
    rw [List.take_length] at hp
    refine RC.exit rfl (RC.back ?_)
    refine RC.seq ?_
    refine RC.region rfl ?_
    refine RL.ev (.assign rfl) rfl rfl ?_
    refine RL.nil (RC.back ?_)
    refine RC.done (rs := [.tmp 4]) (vs := [_]) rfl rfl ⟨rfl, trivial⟩ ?_
    -- end 2
    exact ⟨S, _, rfl, .inl ⟨by decide, hasK_no hp⟩⟩
end Go.Proofs.Ytbfjobmebkhblaa
set_option linter.unusedVariables false
set_option linter.unusedSimpArgs false
namespace Go.Proofs.Ytbfjobmebkhblaa
open Go Go.XL
theorem c_refDel (l : List It) (a : Option Addr) (c m : Nat) (hm : m = l.length) (key : Int) (w : World) (hl : Sl w a 2 (l.map It.cells)) (hb : l.length ≤ 1000000) :
    FC Try.prog 40 [.slice a m c, .int .i64 key] w (fun u w' => ∃ a' c', u = .slice a' ((delL l key).map It.cells).length c' ∧ Ows w.heap.size w' 29 2 (.slice a' ((delL l key).map It.cells).length c') ((delL l key).map It.cells) ∧ Sub w w') := by
  subst hm
  refine FC.intro Try.func40 rfl Try.ntmps40 rfl ?_
  have S := Sub.refl w
  refine RC.seq ?_
  refine RC.region rfl ?_
  refine RL.ev (.assign rfl) rfl rfl ?_
  refine RL.nil (RC.back ?_)
  refine RC.seq ?_
  refine RC.region rfl ?_
  refine RL.buildSlice0 sl26 rfl rfl (fun b_8 w_8 e_8 z_8 hb_8 s_8 => ?_)
  have ge_8 := S.le e_8
  have S := S.trans s_8
  refine RL.ev (.assign rfl) rfl rfl ?_
  refine RL.nil (RC.back ?_)
  refine RC.seq ?_
  refine RC.seq ?_
  refine RC.region rfl ?_
  refine RL.ev (.move rfl) rfl rfl ?_
  refine RL.ev (.len sl26 rfl) rfl rfl ?_
  refine RL.ev (.move rfl) rfl rfl ?_
  refine RL.nil (RC.back ?_)
  refine RC.block ?_
  refine RC.loop (α := Nat × Option Addr × Nat × Nat) (fun x => [(1, .int .i64 key), (5, .slice x.2.1 x.2.2.1 x.2.2.2), (9, .slice a l.length c), (10, .int .i64 (l.length : Int)), (11, .int .i64 (x.1 : Int))]) (fun x w1 => x.1 ≤ l.length ∧ Ows w.heap.size w1 29 2 (.slice x.2.1 x.2.2.1 x.2.2.2) ((delL (l.take x.1) key).map It.cells) ∧ Sub w w1) (fun x => l.length - x.1) (0, some ⟨b_8, 0, none⟩, 0, 0) (keep_of (by repeat (first | exact trivial | refine And.intro rfl ?_))) (⟨Nat.zero_le _, Ows.lit0 hb_8 (by omega), S⟩) (fun x w1 hJ => ?_)
  obtain ⟨i, ao, mo, co⟩ := x; obtain ⟨hi, o, S⟩ := hJ; simp only [] at hi o; obtain rfl := o.sl.2; have szB := S.size; have hdl : (delL (l.take i) key).length ≤ i := Nat.le_trans (List.length_filter_le _ _) (by rw [List.length_take]; omega)
  refine RC.seq ?_
  refine RC.region rfl ?_
  refine RL.ev (.bin rfl rfl rfl) rfl rfl ?_
  refine RL.nil (RC.back ?_)
  refine RC.seq ?_
  refine RC.cond_dec rfl (fun h2 => ?_) (fun h2 => ?_)
  ·
    obtain ⟨x, hx⟩ := getSome (l := l) (i := i) (by omega)
    refine RC.skip (RC.back ?_)
    refine RC.seq ?_
    refine RC.block ?_
    refine RC.seq ?_
    refine RC.region rfl ?_
    refine RL.ev (.indexS sl26 rfl rfl (by omega) (hl.is (i := 0) (by simp only [List.length_map, List.length_cons, List.length_nil]; omega))) rfl rfl ?_
    refine RL.ev (.loadR (x.cells) sh29 rfl ((hl.sub S).rowAt (enc := It.cells) (i := i) hx) rfl) rfl rfl ?_
    refine RL.alloc ze29 rfl rfl (fun b_7 w_7 e_7 z_7 hb_7 s_7 => ?_)
    have ge_7 := S.le e_7
    have d_o_b_7 := o.neNew e_7
    have S := S.trans s_7
    have o := o.sub s_7
    have szB := Nat.le_trans szB s_7.size
    refine RL.store sh29 rfl rfl rfl hb_7 (by exact Nat.le_of_ble_eq_true rfl) (by rfl) rfl (fun w3 z3 hb_7 a3 => ?_)
    have S := S.upd a3 ge_7
    have o := o.updD a3 d_o_b_7
    have szB := Nat.le_trans szB a3.size
    have hb_7 : Has w3 b_7 (x.cells) _ := hb_7.now (by kernel_rfl)
    refine RL.nil (RC.back ?_)
    refine RC.seq ?_
    refine RC.region rfl ?_
    refine RL.ev (.field0 fo29_0 rfl) rfl rfl ?_
    refine RL.ev (.load1 sh2 rfl (hb_7.cell rfl)) rfl rfl ?_
    refine RL.ev (.move rfl) rfl rfl ?_
    refine RL.ev (.bin rfl rfl rfl) rfl rfl ?_
    refine RL.nil (RC.back ?_)
    refine RC.cond_dec rfl (fun h4 => ?_) (fun h4 => ?_)
    ·
      have hk : ¬ x.k = key := h4
      have hnext : delL (l.take (i + 1)) key = delL (l.take i) key ++ [x] := (by unfold delL; rw [filter_take hx, if_pos (decide_eq_true hk)])
      refine RC.region rfl ?_
      refine RL.ev (.move rfl) rfl rfl ?_
      refine RL.ev (.loadR (x.cells) sh29 rfl hb_7.row rfl) rfl rfl ?_
      refine RL.buildSlice1 sl26 _ ze29 rfl rfl rfl rfl rfl rfl rfl (fun b_21 w_21 e_21 z_21 hb_21 s_21 => ?_)
      have ge_21 := S.le e_21
      have n_7__21 := hb_7.ne e_21
      have d_o_b_21 := o.neNew e_21
      have S := S.trans s_21
      have o := o.sub s_21
      have szB := Nat.le_trans szB s_21.size
      have hb_7 := hb_7.sub s_21
      have sz_22 := S.size
      have ltb_7_22 := hb_7.lt
      have ltb_21_22 := hb_21.lt
      refine RL.append2 (base := w.heap.size) (rows := (delL (l.take i) key).map It.cells) (news := [_]) sl26 ze29 rfl rfl rfl rfl (.inl o) (Has.slOne hb_21) rfl (by intro r hr; rw [List.mem_singleton] at hr; subst hr; rfl) rfl (by (try simp only [List.length_map, List.length_nil, List.length_append, List.length_cons]); omega) (by (try simp only [List.length_map, List.length_nil, List.length_append, List.length_cons]); omega) (by omega) rfl rfl (fun v_22 w_22 hc_22 ho_22 ag_22 ob_22 => ?_)
      have o22 := ho_22 (.inl (by simp))
      rw [show _ ++ [_] = ((delL (l.take i) key ++ [x]).map It.cells) from by rw [List.map_append]; rfl] at o22
      have d_o22_b_7 := obNe ob_22 d_o_b_7 hb_7.lt
      have S := S.agrN ag_22 (fun k e => Nat.le_trans (by omega) e.2)
      have szB := Nat.le_trans szB ag_22.size
      have hb_7 := hb_7.step ag_22 (fun e => d_o_b_7 _ e.1 rfl)
      obtain ⟨a_22, c_22, rfl, k_22⟩ := o22.form
      refine RL.ev (.assign rfl) rfl rfl ?_
      refine RL.nil (RC.back ?_)
      refine RC.region rfl ?_
      refine RL.ev (.as (.bin rfl rfl rfl) (wi64 (y := ((i + 1 : Nat) : Int)) (by omega) (by omega))) rfl rfl ?_
      refine RL.ev (.move rfl) rfl rfl ?_
      exact RL.nil (fun a ka => ⟨(i + 1, a_22, _, c_22), ⟨by omega, by show Ows _ _ _ _ _ ((delL (l.take (i + 1)) key).map It.cells); rw [hnext]; exact o22, S⟩, by omega, ka.keep (keep_of (by repeat (first | exact trivial | refine And.intro rfl ?_)))⟩)
    ·
      have hk : x.k = key := Decidable.not_not.1 h4
      have hnext : delL (l.take (i + 1)) key = delL (l.take i) key := (by unfold delL; rw [filter_take hx, if_neg (by simp [hk]), List.append_nil])
      refine RC.skip (RC.back ?_)
      refine RC.region rfl ?_
      refine RL.ev (.as (.bin rfl rfl rfl) (wi64 (y := ((i + 1 : Nat) : Int)) (by omega) (by omega))) rfl rfl ?_
      refine RL.ev (.move rfl) rfl rfl ?_
      exact RL.nil (fun a ka => ⟨(i + 1, ao, _, co), ⟨by omega, by show Ows _ _ _ _ _ ((delL (l.take (i + 1)) key).map It.cells); rw [hnext]; exact o, S⟩, by omega, ka.keep (keep_of (by repeat (first | exact trivial | refine And.intro rfl ?_)))⟩)
  ·
    obtain rfl : i = l.length := (by omega)
    rw [List.take_length] at o
    refine RC.exit rfl (RC.back ?_)
    refine RC.seq ?_
    refine RC.region rfl ?_
    refine RL.ev (.move rfl) rfl rfl ?_
    refine RL.ev (.assign rfl) rfl rfl ?_
    refine RL.nil (RC.back ?_)
    refine RC.done (rs := [.tmp 4]) (vs := [_]) rfl rfl ⟨rfl, trivial⟩ ?_
    -- end 1
    exact ⟨ao, co, by rw [List.take_length]; rfl, o, S⟩
end Go.Proofs.Ytbfjobmebkhblaa
set_option linter.unusedVariables false
set_option linter.unusedSimpArgs false
namespace Go.Proofs.Ytbfjobmebkhblaa
open Go Go.XL
theorem newA_freeH (n : Nat) : (newA n).free.length = n := by simp [newA, newFree_len]
theorem tab_of {A : Ar} {r : Int} {L : List It} (hA : AOk A) (h : IsH A 10 r L) (hap : Ap L) (hl : L.length ≤ 200) : isTab A r := ⟨hA, L, h, hap, hl⟩
theorem put_twoH {A B : Ar} {r key v r' e : Int} {L : List It} (h : PutPH A r key v B r' e) (hm : isTab A r) (hL : IsH A 10 r L) (hap : Ap L) :
    (BadH L key → e = 5 ∧ r' = 0) ∧ (¬ BadH L key → e = 2 ∧ A.free.length < cnt 10 (putM L key v) ∨ e = 0 ∧ Ext A B ∧ AOk B ∧ A.free.length ≤ B.free.length + cnt 10 (putM L key v) ∧ IsH B 10 r' (putM L key v)) := by
  obtain ⟨_, h2, h3⟩ := h
  refine ⟨fun hb => ?_, fun hb => ?_⟩
  · rcases h3 L hm hL hap with h | h | h
    · exact ⟨h.2, (h2 (by omega)).2⟩
    · exact absurd hb h.1
    · exact absurd hb h.1
  · rcases h3 L hm hL hap with h | h | h
    · exact absurd h.1 hb
    · exact .inl h.2
    · exact .inr h.2
theorem del_twoH {A B : Ar} {r key r' e : Int} {L : List It} (h : DelPH A r key B r' e) (hm : isTab A r) (hL : IsH A 10 r L) (hap : Ap L) :
    (hasK L key = false → e = 3 ∧ r' = 0) ∧ (hasK L key = true → e = 2 ∧ A.free.length < cnt 10 (delL L key) ∨ e = 0 ∧ Ext A B ∧ AOk B ∧ A.free.length ≤ B.free.length + cnt 10 (delL L key) ∧ IsH B 10 r' (delL L key)) := by
  obtain ⟨_, h2, h3⟩ := h
  refine ⟨fun hb => ?_, fun hb => ?_⟩
  · rcases h3 L hm hL hap with h | h | h
    · exact ⟨h.2, (h2 (by omega)).2⟩
    · rw [hb] at h; cases h.1
    · rw [hb] at h; cases h.1
  · rcases h3 L hm hL hap with h | h | h
    · rw [hb] at h; cases h.1
    · exact .inl h.2
    · exact .inr h.2
/-- a put that must go well -/
theorem PutPH.good {A B : Ar} {r key v r' e : Int} {L : List It} (h : PutPH A r key v B r' e) (hA : AOk A) (hL : IsH A 10 r L) (hap : Ap L) (hl : L.length < 9) (hk : -1073741824 ≤ key ∧ key ≤ 1073741824) (hf : 12 * (L.length + 1) ≤ A.free.length) :
    e = 0 ∧ Ext A B ∧ AOk B ∧ A.free.length ≤ B.free.length + cnt 10 (putM L key v) ∧ IsH B 10 r' (putM L key v) := by
  have hs := shL_le key L
  have hc := cnt_le 10 (putM L key v)
  have hpl := putM_len (key := key) (v := v) hap
  have hb : ¬ BadH L key := fun h => h.elim (by omega) (fun h => h.elim (by omega) (fun h => by omega))
  rcases (put_twoH h (tab_of hA hL hap (by omega)) hL hap).2 hb with h | h
  · omega
  · exact h
theorem c_isYesH (A : Ar) (na fa : Option Addr) (nc fc : Nat) (hnl : A.nodes.length ≤ 1000000000) (r : Int) (L M : List It) (hp : L.Perm M) (a : Option Addr) (c m : Nat) (hap : Ap M) (hm : m = M.length) (hr : U64 r) (hb : M.length ≤ 1000000) (hL : IsH A 10 r L) (w : World) (hR : ArR w na fa A) (hs : Sl w a 2 (M.map It.cells)) :
    FC Try.prog 32 [arV na fa nc fc A, .int .u64 r, .slice a m c, .int .i64 0] w (Val (.bool true) w) := by
  have h := c_refIsH A na fa nc fc hnl 10 0 r M a c m w (Nat.le_refl _) rfl hap hm hr hb hR hs
  rwa [isHB_yes (hL.perm hp)] at h
theorem c_alive9 (w : World) : FC Try.prog 31 [] w (Val (.bool true) w) := by
  have hok : AOk (newA 90) := newA_ok ⟨by decide, by decide⟩
  refine FC.intro Try.func31 rfl Try.ntmps31 rfl ?_
  have S := Sub.refl w
  refine RC.seq ?_
  refine RC.region rfl ?_
  refine RL.ev (.assign rfl) rfl rfl ?_
  refine RL.nil (RC.back ?_)
  refine RC.seq ?_
  refine RC.region rfl ?_
  refine RL.call rfl ok29 (c_aNew 90 ⟨by decide, by decide⟩ w) rfl rfl ?_
  rintro _ w1 ⟨na, fa, nc, fc, rfl, hnc, hfc, hn0, s2⟩
  have hA := Ft.new hn0 s2
  have S := S.trans s2
  refine RL.ev (.move rfl) rfl rfl ?_
  refine RL.ev (.extract rfl rfl) rfl rfl ?_
  refine RL.ev (.extract rfl rfl) rfl rfl ?_
  refine RL.alloc ze34 rfl rfl (fun b_1 w_1 e_1 z_1 hb_1 s_1 => ?_)
  have ge_1 := S.le e_1
  have d_hA_b_1 := hA.neNew e_1
  have S := S.trans s_1
  have hA := hA.sub s_1
  refine RL.store sh34 rfl rfl rfl hb_1 (by exact Nat.le_of_ble_eq_true rfl) (by rfl) rfl (fun w3 z3 hb_1 a3 => ?_)
  have S := S.upd a3 ge_1
  have hA := hA.updD a3 d_hA_b_1
  have hb_1 : Has w3 b_1 ([.slice na (newA 90).nodes.length nc, .slice fa (newA 90).free.length fc]) _ := hb_1.now (by kernel_rfl)
  refine RL.ev (.assign rfl) rfl rfl ?_
  refine RL.nil (RC.back ?_)
  refine RC.seq ?_
  refine RC.region rfl ?_
  refine RL.ev (.loadR ([.slice na (newA 90).nodes.length nc, .slice fa (newA 90).free.length fc]) sh34 rfl hb_1.row rfl) rfl rfl ?_
  refine RL.call rfl ok30 (c_hPut (newA 90) na fa nc fc hnc hfc 0 5 7 zu0 (by unfold I64; decide) (by unfold I64; decide) _ w3 hA) rfl rfl ?_
  rintro _ w4 ⟨s5, na', fa', nc', fc', B, r', e, M', rfl, hu, hnc', hfc', hA', hup, hpp⟩
  have d_hA'_b_1 := upNe hup d_hA_b_1 hb_1.lt
  have S := S.trans s5
  have hA := hA.sub s5
  have hb_1 := hb_1.sub s5
  obtain ⟨rfl, hx, hBok, hBf, hBT⟩ := hpp.good hok (isH_nil.2 rfl) List.Pairwise.nil (by decide) (by decide) (by rw [newA_freeH]; decide)
  refine RL.ev (.move rfl) rfl rfl ?_
  refine RL.ev (.extract rfl rfl) rfl rfl ?_
  refine RL.ev (.extract rfl rfl) rfl rfl ?_
  refine RL.ev (.extract rfl rfl) rfl rfl ?_
  refine RL.store sh34 rfl rfl rfl hb_1 (by exact Nat.le_of_ble_eq_true rfl) (by rfl) rfl (fun w6 z6 hb_1 a6 => ?_)
  have S := S.upd a6 ge_1
  have hA' := hA'.updD a6 d_hA'_b_1
  have hb_1 : Has w6 b_1 ([.slice na' B.nodes.length nc', .slice fa' B.free.length fc']) _ := hb_1.now (by kernel_rfl)
  refine RL.ev (.assign rfl) rfl rfl ?_
  refine RL.ev (.assign rfl) rfl rfl ?_
  refine RL.nil (RC.back ?_)
  refine RC.seq ?_
  refine RC.region rfl ?_
  refine RL.ev (.loadR ([.slice na' B.nodes.length nc', .slice fa' B.free.length fc']) sh34 rfl hb_1.row rfl) rfl rfl ?_
  refine RL.ev (.move rfl) rfl rfl ?_
  refine RL.call rfl ok35 (c_hGet B na' fa' nc' fc' hnc' hfc' r' 5 hu w6 hA'.now) rfl rfl ?_
  rintro _ w7 ⟨s8, v5, e5, rfl, _, hx2⟩
  have S := S.trans s8
  have hb_1 := hb_1.sub s8
  have hA' := hA'.sub s8
  have hx3 := hx2 _ (tab_of hBok hBT (List.pairwise_singleton _ _) (by decide)) hBT (List.pairwise_singleton _ _)
  have hx4 : v5 = 7 ∧ e5 = 0 := (hx3.elim (fun h => by obtain ⟨z, hz, _, hv, he⟩ := h; rw [List.mem_singleton.1 (show z ∈ [(⟨5, 7⟩ : It)] from hz)] at hv; exact ⟨hv, he⟩) (fun h => by cases h.1))
  obtain ⟨rfl, rfl⟩ := hx4
  refine RL.ev (.move rfl) rfl rfl ?_
  refine RL.ev (.extract rfl rfl) rfl rfl ?_
  refine RL.ev (.extract rfl rfl) rfl rfl ?_
  refine RL.ev (.assign rfl) rfl rfl ?_
  refine RL.ev (.assign rfl) rfl rfl ?_
  refine RL.nil (RC.back ?_)
  refine RC.seq ?_
  refine RC.region rfl ?_
  refine RL.ev (.move rfl) rfl rfl ?_
  refine RL.ev (.as (v' := .bool true) (.bin rfl rfl rfl) (congrArg Value.bool (decide_eq_true (rfl)))) rfl rfl ?_
  refine RL.ev (.move rfl) rfl rfl ?_
  refine RL.ev (.move rfl) rfl rfl ?_
  refine RL.ev (.as (v' := .bool true) (.bin rfl rfl rfl) (congrArg Value.bool (decide_eq_true (rfl)))) rfl rfl ?_
  refine RL.ev (.pick_t rfl rfl) rfl rfl ?_
  refine RL.ev (.move rfl) rfl rfl ?_
  refine RL.ev (.move rfl) rfl rfl ?_
  refine RL.ev (.as (v' := .bool true) (.bin rfl rfl rfl) (congrArg Value.bool (decide_eq_true (rfl)))) rfl rfl ?_
  refine RL.ev (.pick_t rfl rfl) rfl rfl ?_
  refine RL.ev (.move rfl) rfl rfl ?_
  refine RL.ev (.move rfl) rfl rfl ?_
  refine RL.ev (.as (v' := .bool true) (.bin rfl rfl rfl) (congrArg Value.bool (decide_eq_true (rfl)))) rfl rfl ?_
  refine RL.ev (.pick_t rfl rfl) rfl rfl ?_
  refine RL.ev (.assign rfl) rfl rfl ?_
  refine RL.nil (RC.back ?_)
  refine RC.done (rs := [.tmp 0]) (vs := [_]) rfl rfl ⟨rfl, trivial⟩ ?_
  -- end 1
  exact ⟨rfl, S⟩
end Go.Proofs.Ytbfjobmebkhblaa
set_option linter.unusedVariables false
set_option linter.unusedSimpArgs false
namespace Go.Proofs.Ytbfjobmebkhblaa
open Go Go.XL
theorem hash60 : ((List.range 60).map fun (n : Nat) => hashOf (n : Int)).Nodup := by decide +kernel
theorem hash60_inj {a b : Int} (ha : 0 ≤ a ∧ a < 60) (hb : 0 ≤ b ∧ b < 60) (h : hashOf a = hashOf b) : a = b := by
  obtain ⟨m, rfl⟩ : ∃ m : Nat, a = m := ⟨a.toNat, by omega⟩
  obtain ⟨n, rfl⟩ : ∃ n : Nat, b = n := ⟨b.toNat, by omega⟩
  have h60 := hash60
  rw [List.nodup_iff_pairwise_ne, List.pairwise_map] at h60
  rw [List.pairwise_iff_getElem] at h60
  rcases Nat.lt_trichotomy m n with q | q | q
  · have := h60 m n (by simp; omega) (by simp; omega) q
    simp only [List.getElem_range] at this
    exact absurd h this
  · rw [q]
  · have := h60 n m (by simp; omega) (by simp; omega) q
    simp only [List.getElem_range] at this
    exact absurd h.symm this
def Low (L : List It) : Prop := ∀ x ∈ L, 0 ≤ x.k ∧ x.k < 60
theorem Low.perm {L M : List It} (h : Low L) (p : L.Perm M) : Low M := fun x hx => h x (p.mem_iff.2 hx)
theorem Low.put {L : List It} (h : Low L) {key v : Int} (hk : 0 ≤ key ∧ key < 60) : Low (putM L key v) := fun x hx => by
  rcases List.mem_cons.1 hx with rfl | hx
  · exact hk
  · exact h x (delL_mem.1 hx).1
theorem Low.del {L : List It} (h : Low L) {key : Int} : Low (delL L key) := fun x hx => h x (delL_mem.1 hx).1
theorem few_same : ∀ {L : List It}, Ap L → (∀ x ∈ L, ∀ y ∈ L, x.k = y.k) → L.length ≤ 1
  | [], _, _ => Nat.zero_le _
  | [x], _, _ => Nat.le_refl _
  | x :: y :: L, h, e => absurd (e x (by simp) y (by simp)) ((List.pairwise_cons.1 h).1 y (by simp))
theorem shL_low {L : List It} (hap : Ap L) (hlow : Low L) (k : Int) : shL k L ≤ 1 := by
  unfold shL
  refine few_same (hap.filter _) fun x hx y hy => ?_
  obtain ⟨h1, h2⟩ := List.mem_filter.1 hx
  obtain ⟨h3, h4⟩ := List.mem_filter.1 hy
  exact hash60_inj (hlow x h1) (hlow y h3) (by simp at h2 h4; rw [h2, h4])
theorem sub_len : ∀ (L ks : List Int), L.Nodup → (∀ x ∈ L, x ∈ ks) → L.length ≤ ks.length
  | [], ks, _, _ => Nat.zero_le _
  | x :: L, ks, h, hs => by
    obtain ⟨h1, h2⟩ := List.nodup_cons.1 h
    have hx := hs x (by simp)
    have := sub_len L (ks.erase x) h2 fun y hy => (List.mem_erase_of_ne (fun (e : y = x) => h1 (e ▸ hy))).2 (hs y (by simp [hy]))
    rw [List.length_erase_of_mem hx] at this
    have hp := List.length_pos_of_mem hx
    rw [List.length_cons]; omega
theorem Ap.keys {L : List It} (h : Ap L) : (L.map fun x => x.k).Nodup := by
  rw [List.nodup_iff_pairwise_ne, List.pairwise_map]; exact h
def zeroI (k : Int) : It := ⟨k, 0⟩
theorem ofL_keys (lv i : Nat) (ks : List Int) : ofL lv i (ks.map zeroI) = (ks.filter fun k => decide (dig k lv = i)).map zeroI := by
  unfold ofL; rw [List.filter_map]; rfl
theorem cnt_pos {k : Nat} {L : List It} (h : 1 ≤ L.length) : 1 ≤ cnt k L := by
  rcases row_cases L with rfl | ⟨x, rfl⟩ | h2
  · simp at h
  · rw [cnt_few (by simp)]; exact Nat.le_refl _
  · cases k with
    | zero => rw [cnt_0 h2]; omega
    | succ k => rw [cnt_s h2]; omega
theorem cnt_bound : ∀ (k : Nat) (L : List It) (ks : List Int), Ap L → (∀ x ∈ L, x.k ∈ ks) → cnt k L ≤ cnt k (ks.map zeroI)
  | k, L, ks, hap, hs => by
    have hlen : L.length ≤ ks.length := by
      have := sub_len (L.map fun x => x.k) ks hap.keys (fun y hy => by obtain ⟨x, hx, rfl⟩ := List.mem_map.1 hy; exact hs x hx)
      rwa [List.length_map] at this
    rcases row_cases L with rfl | ⟨x, rfl⟩ | h2
    · rw [cnt_nil]; exact Nat.zero_le _
    · rw [cnt_few (by simp)]; exact cnt_pos (by rw [List.length_map]; exact hlen)
    · have h2' : 2 ≤ (ks.map zeroI).length := by rw [List.length_map]; omega
      cases k with
      | zero => rw [cnt_0 h2, cnt_0 h2', List.length_map]; omega
      | succ k =>
        have q : ∀ i, cnt k (ofL (9 - k) i L) ≤ cnt k (ofL (9 - k) i (ks.map zeroI)) := fun i => by
          rw [ofL_keys]
          exact cnt_bound k _ _ (hap.of _ _) fun x hx => List.mem_filter.2 ⟨hs x (ofL_mem.1 hx).1, by simpa using (ofL_mem.1 hx).2⟩
        have q0 := q 0
        have q1 := q 1
        have q2 := q 2
        have q3 := q 3
        rw [cnt_s h2, cnt_s h2']; omega
theorem cnt60 : cnt 10 (((List.range 60).map fun (n : Nat) => (n : Int)).map zeroI) ≤ 100 := by decide +kernel
theorem cnt_low {L : List It} (hap : Ap L) (hlow : Low L) : cnt 10 L ≤ 100 :=
  Nat.le_trans (cnt_bound 10 L _ hap fun x hx => List.mem_map.2 ⟨x.k.toNat, List.mem_range.2 (by have := hlow x hx; omega), by have := hlow x hx; omega⟩) cnt60
theorem low_len {L : List It} (hap : Ap L) (hlow : Low L) : L.length ≤ 60 := by
  have := sub_len (L.map fun x => x.k) ((List.range 60).map fun (n : Nat) => (n : Int)) hap.keys (fun y hy => by
    obtain ⟨x, hx, rfl⟩ := List.mem_map.1 hy
    exact List.mem_map.2 ⟨x.k.toNat, List.mem_range.2 (by have := hlow x hx; omega), by have := hlow x hx; omega⟩)
  simpa using this
theorem low_bad {L : List It} (hap : Ap L) (hlow : Low L) {key : Int} (hk : 0 ≤ key ∧ key < 60) : ¬ BadH L key := by
  have := shL_low hap hlow key
  have := low_len hap hlow
  exact fun h => h.elim (by omega) (fun h => h.elim (by omega) (fun h => h.2.elim (by omega) (by omega)))
theorem PutPH.low {A B : Ar} {r key v r' e : Int} {L : List It} (h : PutPH A r key v B r' e) (hA : AOk A) (hL : IsH A 10 r L) (hap : Ap L) (hlow : Low L) (hk : 0 ≤ key ∧ key < 60) (hf : 100 ≤ A.free.length ∨ 12 * (L.length + 1) ≤ A.free.length) :
    e = 0 ∧ Ext A B ∧ AOk B ∧ A.free.length ≤ B.free.length + 100 ∧ IsH B 10 r' (putM L key v) := by
  have hc := cnt_low (hap.put (key := key) (v := v)) (hlow.put hk)
  have hc2 := cnt_le 10 (putM L key v)
  have hpl := putM_len (key := key) (v := v) hap
  have hll := low_len hap hlow
  rcases (put_twoH h (tab_of hA hL hap (by omega)) hL hap).2 (low_bad hap hlow hk) with h | ⟨h1, h2, h3, h4, h5⟩
  · omega
  · exact ⟨h1, h2, h3, by omega, h5⟩
theorem DelPH.low {A B : Ar} {r key r' e : Int} {L : List It} (h : DelPH A r key B r' e) (hA : AOk A) (hL : IsH A 10 r L) (hap : Ap L) (hlow : Low L) (hf : 100 ≤ A.free.length ∨ 12 * L.length ≤ A.free.length) :
    (hasK L key = false ∧ e = 3) ∨ (hasK L key = true ∧ e = 0 ∧ Ext A B ∧ AOk B ∧ A.free.length ≤ B.free.length + 100 ∧ IsH B 10 r' (delL L key)) := by
  have hc := cnt_low (hap.del (key := key)) hlow.del
  have hc2 := cnt_le 10 (delL L key)
  have hdl : (delL L key).length ≤ L.length := List.length_filter_le _ _
  have hll := low_len hap hlow
  have := del_twoH h (tab_of hA hL hap (by omega)) hL hap
  cases hh : hasK L key with
  | false => exact .inl ⟨rfl, (this.1 hh).1⟩
  | true =>
    rcases this.2 hh with h | ⟨h1, h2, h3, h4, h5⟩
    · omega
    · exact .inr ⟨rfl, h1, h2, h3, by omega, h5⟩
end Go.Proofs.Ytbfjobmebkhblaa
set_option linter.unusedVariables false
set_option linter.unusedSimpArgs false
namespace Go.Proofs.Ytbfjobmebkhblaa
open Go Go.XL
structure ActH where
  del : Bool
  k : Int
  v : Int
def ActH.cells (z : ActH) : List Value := [.bool z.del, .int .i64 z.k, .int .i64 z.v]
def ActH.ok (z : ActH) : Prop := I64 z.k ∧ I64 z.v
theorem fit_actH (r : List Value) (h : fitsR [none, some .i64, some .i64] r) : ∃ x : ActH, r = x.cells ∧ x.ok := by
  obtain ⟨_, _, rfl, h0, h⟩ := fitsR_cons h
  obtain ⟨_, _, rfl, h1, h⟩ := fitsR_cons h
  obtain ⟨_, _, rfl, h2, h⟩ := fitsR_cons h
  obtain rfl := fitsR_nil h
  obtain ⟨b, rfl⟩ := fitR_bool h0
  obtain ⟨a1, rfl, g1⟩ := fitI h1
  obtain ⟨a2, rfl, g2⟩ := fitI h2
  exact ⟨⟨b, a1, a2⟩, rfl, g1, g2⟩
section
variable {H : Type} {enc : TypeId × Value → H} {W : World} {base : Nat} {sp : Nat → Bool} {held : Bool} {v : Value} {d : DataW H} {ps : List MemPlace} {r : Reach} {b : Nat}
set_option maxRecDepth 100000 in
theorem open_acts9 (hok : Value.okWide Try.prog W r b 70 v) (h : DataW.Trod enc Try.prog W base sp held 70 v d ps) : ∃ (a : Option Addr) (l : List ActH) (c : Nat), v = .slice a l.length c ∧ l.length ≤ c ∧ c ≤ maxLen ∧ Sl W a 3 (l.map ActH.cells) ∧ ∀ x ∈ l, x.ok :=
  open_sl ActH.cells ActH.ok sl70 fk72 rfl fit_actH hok h
end
theorem delL_srt {L : List It} (h : Srt L) (key : Int) : Srt (delL L key) := List.Pairwise.filter _ h
theorem putR_low {L : List It} (h : Low L) {key v : Int} (hk : 0 ≤ key ∧ key < 60) : Low (putR L key v) := (h.put hk).perm (putR_putM L key v).symm
theorem drop_consH {l : List It} {j : Nat} {x : It} (h : l[j]? = some x) : l.drop j = x :: l.drop (j + 1) := by
  have hj := lt_of_get h
  rw [List.drop_eq_getElem_cons hj]
  rw [List.getElem?_eq_getElem hj] at h
  rw [Option.some.inj h]
theorem del_head {x : It} {L : List It} (h : Ap (x :: L)) : delL (x :: L) x.k = L := by
  unfold delL
  rw [List.filter_cons, if_neg (by simp)]
  exact delL_none fun y hy e => (List.pairwise_cons.1 h).1 y hy e.symm
/-- what is read: the arena, the row -/
def HI (na fa : Option Addr) (A : Ar) (ra : Option Addr) (L : List It) (u : World) : Prop := ArR u na fa A ∧ Sl u ra 2 (L.map It.cells)
structure HkS (b3 : Nat) (w W : World) (M : Nat → Prop) (A : Ar) (na fa : Option Addr) (nc fc : Nat) (r : Int) (ra : Option Addr) (rc : Nat) (L : List It) : Prop where
  hb : Has W b3 [.slice na A.nodes.length nc, .slice fa A.free.length fc] 34
  hK : Ft M (HI na fa A ra L) W
  d1 : ∀ k, M k → k ≠ b3
  S : Sub w W
  u : U64 r
  ok : AOk A
  isH : IsH A 10 r L
  srt : Srt L
  low : Low L
  nc : A.nodes.length ≤ nc
  fc : A.free.length ≤ fc
set_option maxHeartbeats 4000000 in
theorem law_HamtKeeps (w : World) (l : List ActH) (pa : Option Addr) (pc : Nat) (hlc : l.length ≤ pc) (hcm : pc ≤ maxLen) (hs : Sl w pa 3 (l.map ActH.cells)) (hli : ∀ x ∈ l, x.ok) :
    FC Try.prog 11 [.slice pa l.length pc] w (Val (.bool true) w) := by
  have hll : l.length ≤ 9223372036854775807 := Nat.le_trans hlc (Nat.le_trans hcm (by decide))
  refine FC.intro Try.func11 rfl Try.ntmps11 rfl ?_
  have S := Sub.refl w
  refine RC.seq ?_
  refine RC.region rfl ?_
  refine RL.ev (.assign rfl) rfl rfl ?_
  refine RL.nil (RC.back ?_)
  refine RC.seq ?_
  refine RC.region rfl ?_
  refine RL.call rfl ok29 (c_aNew 512 ⟨by decide, by decide⟩ w) rfl rfl ?_
  rintro _ w1 ⟨na0, fa0, nc0, fc0, rfl, hnc0, hfc0, hn00, s2⟩
  have hA := Ft.new hn00 s2
  have S := S.trans s2
  refine RL.ev (.move rfl) rfl rfl ?_
  refine RL.ev (.extract rfl rfl) rfl rfl ?_
  refine RL.ev (.extract rfl rfl) rfl rfl ?_
  refine RL.alloc ze34 rfl rfl (fun b_3 w_3 e_3 z_3 hb_3 s_3 => ?_)
  have ge_3 := S.le e_3
  have d_hA_b_3 := hA.neNew e_3
  have S := S.trans s_3
  have hA := hA.sub s_3
  refine RL.store sh34 rfl rfl rfl hb_3 (by exact Nat.le_of_ble_eq_true rfl) (by rfl) rfl (fun w3 z3 hb_3 a3 => ?_)
  have S := S.upd a3 ge_3
  have hA := hA.updD a3 d_hA_b_3
  have hb_3 : Has w3 b_3 ([.slice na0 (newA 512).nodes.length nc0, .slice fa0 (newA 512).free.length fc0]) _ := hb_3.now (by kernel_rfl)
  refine RL.ev (.assign rfl) rfl rfl ?_
  refine RL.nil (RC.back ?_)
  refine RC.seq ?_
  refine RC.region rfl ?_
  refine RL.ev (.assign rfl) rfl rfl ?_
  refine RL.ev (.assign rfl) rfl rfl ?_
  refine RL.nil (RC.back ?_)
  refine RC.seq ?_
  refine RC.region rfl ?_
  refine RL.buildSlice0 sl26 rfl rfl (fun b_24 w_24 e_24 z_24 hb_24 s_24 => ?_)
  have ge_24 := S.le e_24
  have n_3__24 := hb_3.ne e_24
  have d_hA_b_24 := hA.neNew e_24
  have S := S.trans s_24
  have hA := hA.sub s_24
  have hb_3 := hb_3.sub s_24
  refine RL.buildSlice0 sl26 rfl rfl (fun b_25 w_25 e_25 z_25 hb_25 s_25 => ?_)
  have ge_25 := S.le e_25
  have n_3__25 := hb_3.ne e_25
  have n_24__25 := hb_24.ne e_25
  have d_hA_b_25 := hA.neNew e_25
  have S := S.trans s_25
  have hA := hA.sub s_25
  have hb_3 := hb_3.sub s_25
  have hb_24 := hb_24.sub s_25
  refine RL.ev (.assign rfl) rfl rfl ?_
  refine RL.ev (.assign rfl) rfl rfl ?_
  refine RL.nil (RC.back ?_)
  refine RC.seq ?_
  refine RC.seq ?_
  refine RC.region rfl ?_
  refine RL.ev (.move rfl) rfl rfl ?_
  refine RL.ev (.len sl70 rfl) rfl rfl ?_
  refine RL.ev (.move rfl) rfl rfl ?_
  refine RL.nil (RC.back ?_)
  refine RC.block ?_
  refine RC.loop (α := Nat × (Ar × Option Addr × Option Addr × Nat × Nat) × Int × (Nat → Prop) × (Option Addr × Nat × List It)) (fun x => [(3, .pointer (some ⟨b_3, 0, none⟩)), (4, .int .i64 0), (5, .int .u64 x.2.2.1), (7, .slice x.2.2.2.2.1 (x.2.2.2.2.2.2.map It.cells).length x.2.2.2.2.2.1), (26, .slice pa l.length pc), (27, .int .i64 (l.length : Int)), (28, .int .i64 (x.1 : Int))]) (fun x w4 => (x.1 ≤ l.length ∧ x.2.2.2.2.2.2.length ≤ x.1) ∧ HkS b_3 w w4 x.2.2.2.1 x.2.1.1 x.2.1.2.1 x.2.1.2.2.1 x.2.1.2.2.2.1 x.2.1.2.2.2.2 x.2.2.1 x.2.2.2.2.1 x.2.2.2.2.2.1 x.2.2.2.2.2.2) (fun x => l.length - x.1) (0, (newA 512, na0, fa0, nc0, fc0), 0, _, (some ⟨b_24, 0, none⟩, 0, [])) (keep_of (by repeat (first | exact trivial | refine And.intro rfl ?_))) (⟨⟨Nat.zero_le _, Nat.zero_le _⟩, ⟨hb_3, hA.imp fun u h => ⟨h, Sl.nil _ _ _⟩, d_hA_b_3, S, zu0, newA_ok ⟨by decide, by decide⟩, isH_nil.2 rfl, List.Pairwise.nil, fun t ht => (by cases ht), hnc0, hfc0⟩⟩) (fun x w4 hJ => ?_)
  obtain ⟨i, ⟨A, na, fa, nc, fc⟩, r, M, ⟨ra, rc, L⟩⟩ := x; obtain ⟨⟨hi, hLi⟩, ⟨hb_3, hK, d1, S, hu, hok, hT, hsrt, hlow, hnc, hfc⟩⟩ := hJ; simp only [] at hi hLi hb_3 hK d1 hu hok hT hsrt hlow hnc hfc; have hap := hsrt.ap; have hmost := hok.most
  refine RC.seq ?_
  refine RC.region rfl ?_
  refine RL.ev (.bin rfl rfl rfl) rfl rfl ?_
  refine RL.nil (RC.back ?_)
  refine RC.seq ?_
  refine RC.cond_dec rfl (fun h5 => ?_) (fun h5 => ?_)
  ·
    obtain ⟨x, hx⟩ := getSome (l := l) (i := i) (by omega)
    obtain ⟨hxk, hxv⟩ := hli x (List.mem_of_getElem? hx)
    have hxk : -9223372036854775808 ≤ x.k ∧ x.k ≤ 9223372036854775807 := hxk
    have nmx := norm_mod x.k 30 (by decide)
    obtain ⟨kk, hkk⟩ : ∃ kk, kk = x.k % 30 := ⟨_, rfl⟩
    have hkr : 0 ≤ kk ∧ kk < 60 := (by omega)
    have hki : I64 kk := (by unfold I64; omega)
    refine RC.skip (RC.back ?_)
    refine RC.seq ?_
    refine RC.block ?_
    refine RC.seq ?_
    refine RC.region rfl ?_
    refine RL.ev (.move rfl) rfl rfl ?_
    refine RL.ev (.indexS sl70 rfl rfl (by omega) (hs.is (i := 0) (by simp only [List.length_map, List.length_cons, List.length_nil]; omega))) rfl rfl ?_
    refine RL.ev (.loadR (x.cells) sh72 rfl ((hs.sub S).rowAt (enc := ActH.cells) (i := i) hx) rfl) rfl rfl ?_
    refine RL.alloc ze72 rfl rfl (fun b_10 w_10 e_10 z_10 hb_10 s_10 => ?_)
    have ge_10 := S.le e_10
    have n_3__10 := hb_3.ne e_10
    have d_hK_b_10 := hK.neNew e_10
    have S := S.trans s_10
    have hb_3 := hb_3.sub s_10
    have hK := hK.sub s_10
    refine RL.ev (.assign rfl) rfl rfl ?_
    refine RL.store sh72 rfl rfl rfl hb_10 (by exact Nat.le_of_ble_eq_true rfl) (by rfl) rfl (fun w6 z6 hb_10 a6 => ?_)
    have S := S.upd a6 ge_10
    have hb_3 := hb_3.upd a6 n_3__10
    have hK := hK.updD a6 d_hK_b_10
    have hb_10 : Has w6 b_10 (x.cells) _ := hb_10.now (by kernel_rfl)
    refine RL.nil (RC.back ?_)
    refine RC.seq ?_
    refine RC.seq ?_
    refine RC.region rfl ?_
    refine RL.ev (.move rfl) rfl rfl ?_
    refine RL.ev (.bin rfl rfl rfl) rfl rfl ?_
    refine RL.ev (.move rfl) rfl rfl ?_
    refine RL.split 35 rfl (fun h7 => ?_) (fun h7 => ?_)
    ·
      have h34 := h7
      refine RL.off rfl rfl ?_
      refine RL.off rfl rfl ?_
      refine RL.off rfl rfl ?_
      refine RL.off rfl rfl ?_
      refine RL.ev (.pick_t rfl rfl) rfl rfl ?_
      refine RL.nil (RC.back ?_)
      refine RC.cond_t rfl ?_
      refine RC.exit rfl (RC.back ?_)
      refine RC.seq ?_
      refine RC.seq ?_
      refine RC.region rfl ?_
      refine RL.ev (.move rfl) rfl rfl ?_
      refine RL.ev (.as (v' := .int .i64 (L.length : Int)) (.len sl26 rfl) (by rw [List.length_map])) rfl rfl ?_
      refine RL.ev (.move rfl) rfl rfl ?_
      refine RL.nil (RC.back ?_)
      refine RC.block ?_
      refine RC.loop (α := Nat × (Ar × Option Addr × Option Addr × Nat × Nat) × Int × (Nat → Prop)) (fun y => [(3, .pointer (some ⟨b_3, 0, none⟩)), (4, .int .i64 0), (5, .int .u64 y.2.2.1), (110, .slice ra (L.map It.cells).length rc), (111, .int .i64 (L.length : Int)), (112, .int .i64 (y.1 : Int))]) (fun y w8 => y.1 ≤ L.length ∧ Ft M (fun u => Sl u ra 2 (L.map It.cells)) w8 ∧ Has w8 b_3 [.slice y.2.1.2.1 y.2.1.1.nodes.length y.2.1.2.2.2.1, .slice y.2.1.2.2.1 y.2.1.1.free.length y.2.1.2.2.2.2] 34 ∧ Ft y.2.2.2 (fun u => ArR u y.2.1.2.1 y.2.1.2.2.1 y.2.1.1) w8 ∧ (∀ k, y.2.2.2 k → k ≠ b_3) ∧ Sub w w8 ∧ U64 y.2.2.1 ∧ AOk y.2.1.1 ∧ IsH y.2.1.1 10 y.2.2.1 (L.drop y.1) ∧ y.2.1.1.nodes.length ≤ y.2.1.2.2.2.1 ∧ y.2.1.1.free.length ≤ y.2.1.2.2.2.2) (fun y => L.length - y.1) (0, (A, na, fa, nc, fc), r, M) (keep_of (by repeat (first | exact trivial | refine And.intro rfl ?_))) (⟨Nat.zero_le _, hK.imp fun u h => h.2, hb_3, hK.imp fun u h => h.1, d1, S, hu, hok, hT, hnc, hfc⟩) (fun y w8 hJ => ?_)
      obtain ⟨j, ⟨B, nb, fb, ncb, fcb⟩, rb, MB⟩ := y; obtain ⟨hj, hl, hb_3, hB, dB, S, hub, hokb, hTb, hncb, hfcb⟩ := hJ; simp only [] at hj hl hb_3 hB dB hub hokb hTb hncb hfcb; have hapb : Ap (L.drop j) := List.Pairwise.drop hap; have hlb : Low (L.drop j) := fun z hz => hlow z (List.mem_of_mem_drop hz)
      refine RC.seq ?_
      refine RC.region rfl ?_
      refine RL.ev (.bin rfl rfl rfl) rfl rfl ?_
      refine RL.nil (RC.back ?_)
      refine RC.seq ?_
      refine RC.cond_dec rfl (fun h9 => ?_) (fun h9 => ?_)
      ·
        obtain ⟨x, hx⟩ := getSome (l := L) (i := j) (by omega)
        have hdx : L.drop j = x :: L.drop (j + 1) := drop_consH hx
        have hxl := hlow x (List.mem_of_getElem? hx)
        refine RC.skip (RC.back ?_)
        refine RC.seq ?_
        refine RC.block ?_
        refine RC.seq ?_
        refine RC.region rfl ?_
        refine RL.ev (.indexS sl26 rfl rfl (by rw [List.length_map]; omega) (hl.now.is (i := 0) (by simp only [List.length_map, List.length_cons, List.length_nil]; omega))) rfl rfl ?_
        refine RL.ev (.loadR (x.cells) sh29 rfl (hl.now.rowAt (enc := It.cells) (i := j) hx) rfl) rfl rfl ?_
        refine RL.alloc ze29 rfl rfl (fun b_16 w_16 e_16 z_16 hb_16 s_16 => ?_)
        have ge_16 := S.le e_16
        have n_3__16 := hb_3.ne e_16
        have d_hl_b_16 := hl.neNew e_16
        have d_hB_b_16 := hB.neNew e_16
        have S := S.trans s_16
        have hb_3 := hb_3.sub s_16
        have hl := hl.sub s_16
        have hB := hB.sub s_16
        refine RL.store sh29 rfl rfl rfl hb_16 (by exact Nat.le_of_ble_eq_true rfl) (by rfl) rfl (fun w10 z10 hb_16 a10 => ?_)
        have S := S.upd a10 ge_16
        have hb_3 := hb_3.upd a10 n_3__16
        have hl := hl.updD a10 d_hl_b_16
        have hB := hB.updD a10 d_hB_b_16
        have hb_16 : Has w10 b_16 (x.cells) _ := hb_16.now (by kernel_rfl)
        refine RL.nil (RC.back ?_)
        refine RC.seq ?_
        refine RC.seq ?_
        refine RC.region rfl ?_
        refine RL.ev (.field0 fo34_1 rfl) rfl rfl ?_
        refine RL.ev (.load1 sh32 rfl (hb_3.cell rfl)) rfl rfl ?_
        refine RL.ev (.len sl32 rfl) rfl rfl ?_
        refine RL.ev (.bin rfl rfl rfl) rfl rfl ?_
        refine RL.nil (RC.back ?_)
        refine RC.cond_dec rfl (fun h11 => ?_) (fun h11 => ?_)
        ·
          have h119 := h11
          refine RC.seq ?_
          refine RC.region rfl ?_
          refine RL.call rfl ok31 (c_alive9 w10) rfl rfl ?_
          rintro _ w12 ⟨rfl, s13⟩
          have S := S.trans s13
          have hb_3 := hb_3.sub s13
          have hl := hl.sub s13
          have hB := hB.sub s13
          have hb_16 := hb_16.sub s13
          refine RL.ev (.assign rfl) rfl rfl ?_
          refine RL.nil (RC.back ?_)
          refine RC.done (rs := [.tmp 2]) (vs := [_]) rfl rfl ⟨rfl, trivial⟩ ?_
          -- end 1
          exact ⟨rfl, S⟩
        ·
          have h119 := h11
          refine RC.skip (RC.back ?_)
          refine RC.seq ?_
          refine RC.region rfl ?_
          refine RL.ev (.loadR ([.slice nb B.nodes.length ncb, .slice fb B.free.length fcb]) sh34 rfl hb_3.row rfl) rfl rfl ?_
          refine RL.ev (.move rfl) rfl rfl ?_
          refine RL.ev (.field0 fo29_0 rfl) rfl rfl ?_
          refine RL.ev (.load1 sh2 rfl (hb_16.cell rfl)) rfl rfl ?_
          refine RL.call rfl ok38 (c_hDel B nb fb ncb fcb hncb hfcb rb x.k hub (by unfold I64; omega) MB w10 hB) rfl rfl ?_
          rintro _ w14 ⟨s15, nb', fb', ncb', fcb', B', rb', eb', MB', rfl, hub', hncb', hfcb', hB', hup, hpp⟩
          have d_hB'_b_3 := upNe hup dB hb_3.lt
          have d_hB'_b_16 := upNe hup d_hB_b_16 hb_16.lt
          have S := S.trans s15
          have hb_3 := hb_3.sub s15
          have hl := hl.sub s15
          have hB := hB.sub s15
          have hb_16 := hb_16.sub s15
          obtain ⟨_, he0, hEb, hokb', hfb', hTb'⟩ := (hpp.low hokb hTb hapb hlb (.inl (by omega))).resolve_left (fun h => by rw [show hasK (L.drop j) x.k = true from hasK_iff.2 ⟨x, by rw [hdx]; simp, rfl⟩] at h; cases h.1)
          rw [hdx, del_head (hdx ▸ hapb)] at hTb'
          refine RL.ev (.move rfl) rfl rfl ?_
          refine RL.ev (.extract rfl rfl) rfl rfl ?_
          refine RL.ev (.extract rfl rfl) rfl rfl ?_
          refine RL.ev (.extract rfl rfl) rfl rfl ?_
          refine RL.alloc ze34 rfl rfl (fun b_17 w_17 e_17 z_17 hb_17 s_17 => ?_)
          have ge_17 := S.le e_17
          have n_3__17 := hb_3.ne e_17
          have n_16__17 := hb_16.ne e_17
          have d_hl_b_17 := hl.neNew e_17
          have d_hB'_b_17 := hB'.neNew e_17
          have S := S.trans s_17
          have hb_3 := hb_3.sub s_17
          have hl := hl.sub s_17
          have hb_16 := hb_16.sub s_17
          have hB' := hB'.sub s_17
          refine RL.store sh34 rfl rfl rfl hb_17 (by exact Nat.le_of_ble_eq_true rfl) (by rfl) rfl (fun w16 z16 hb_17 a16 => ?_)
          have S := S.upd a16 ge_17
          have hb_3 := hb_3.upd a16 n_3__17
          have hl := hl.updD a16 d_hl_b_17
          have hb_16 := hb_16.upd a16 n_16__17
          have hB' := hB'.updD a16 d_hB'_b_17
          have hb_17 : Has w16 b_17 ([.slice nb' B'.nodes.length ncb', .slice fb' B'.free.length fcb']) _ := hb_17.now (by kernel_rfl)
          refine RL.ev (.assign rfl) rfl rfl ?_
          refine RL.ev (.assign rfl) rfl rfl ?_
          refine RL.nil (RC.back ?_)
          refine RC.seq ?_
          refine RC.seq ?_
          refine RC.region rfl ?_
          refine RL.ev (.move rfl) rfl rfl ?_
          refine RL.ev (.as (v' := .bool false) (.bin rfl rfl rfl) (congrArg Value.bool (decide_eq_false (fun h => h he0)))) rfl rfl ?_
          refine RL.nil (RC.back ?_)
          refine RC.cond_f rfl ?_
          refine RC.skip (RC.back ?_)
          refine RC.region rfl ?_
          refine RL.ev (.loadR ([.slice nb' B'.nodes.length ncb', .slice fb' B'.free.length fcb']) sh34 rfl hb_17.row rfl) rfl rfl ?_
          refine RL.ev (.move rfl) rfl rfl ?_
          refine RL.store sh34 rfl rfl rfl hb_3 (by exact Nat.le_of_ble_eq_true rfl) (by rfl) rfl (fun w17 z17 hb_3 a17 => ?_)
          have S := S.upd a17 ge_3
          have hl := hl.updD a17 d1
          have hb_16 := hb_16.upd a17 n_3__16.symm
          have hB' := hB'.updD a17 d_hB'_b_3
          have hb_17 := hb_17.upd a17 n_3__17.symm
          have hb_3 : Has w17 b_3 ([.slice nb' B'.nodes.length ncb', .slice fb' B'.free.length fcb']) _ := hb_3.now (by kernel_rfl)
          refine RL.ev (.assign rfl) rfl rfl ?_
          refine RL.nil (RC.back ?_)
          refine RC.region rfl ?_
          refine RL.ev (.as (.bin rfl rfl rfl) (wi64 (y := ((j + 1 : Nat) : Int)) (by omega) (by omega))) rfl rfl ?_
          refine RL.ev (.move rfl) rfl rfl ?_
          exact RL.nil (fun a ka => ⟨(j + 1, (B', nb', fb', ncb', fcb'), rb', MB'), ⟨by omega, hl, hb_3, hB', d_hB'_b_3, S, hub', hokb', hTb', hncb', hfcb'⟩, by omega, ka.keep (keep_of (by repeat (first | exact trivial | refine And.intro rfl ?_)))⟩)
      ·
        obtain rfl : j = L.length := (by omega)
        rw [List.drop_length] at hTb
        have hr0 := isH_nil.1 hTb
        refine RC.exit rfl (RC.back ?_)
        refine RC.seq ?_
        refine RC.region rfl ?_
        refine RL.call rfl ok31 (c_alive9 w8) rfl rfl ?_
        rintro _ w18 ⟨rfl, s19⟩
        have S := S.trans s19
        have hb_3 := hb_3.sub s19
        have hl := hl.sub s19
        have hB := hB.sub s19
        refine RL.ev (.move rfl) rfl rfl ?_
        refine RL.ev (.move rfl) rfl rfl ?_
        refine RL.ev (.as (v' := .bool true) (.bin rfl rfl rfl) (congrArg Value.bool (decide_eq_true (rfl)))) rfl rfl ?_
        refine RL.ev (.pick_t rfl rfl) rfl rfl ?_
        refine RL.ev (.move rfl) rfl rfl ?_
        refine RL.ev (.move rfl) rfl rfl ?_
        refine RL.ev (.as (v' := .bool true) (.bin rfl rfl rfl) (congrArg Value.bool (decide_eq_true (hr0)))) rfl rfl ?_
        refine RL.ev (.pick_t rfl rfl) rfl rfl ?_
        refine RL.ev (.move rfl) rfl rfl ?_
        refine RL.ev (.loadR ([.slice nb B.nodes.length ncb, .slice fb B.free.length fcb]) sh34 rfl hb_3.row rfl) rfl rfl ?_
        refine RL.call rfl ok41 (c_r4Right B nb fb ncb fcb w18 hB.now) rfl rfl ?_
        rintro _ w20 ⟨rfl, s21⟩
        have S := S.trans s21
        have hb_3 := hb_3.sub s21
        have hl := hl.sub s21
        have hB := hB.sub s21
        refine RL.ev (.as (v' := .bool true) (.pick_t rfl rfl) (by rw [aokB_yes hokb])) rfl rfl ?_
        refine RL.ev (.assign rfl) rfl rfl ?_
        refine RL.nil (RC.back ?_)
        refine RC.done (rs := [.tmp 2]) (vs := [_]) rfl rfl ⟨rfl, trivial⟩ ?_
        -- end 2
        exact ⟨rfl, S⟩
    ·
      have h34 := h7
      refine RL.ev (.field0 fo34_1 rfl) rfl rfl ?_
      refine RL.ev (.load1 sh32 rfl (hb_3.cell rfl)) rfl rfl ?_
      refine RL.ev (.len sl32 rfl) rfl rfl ?_
      refine RL.ev (.bin rfl rfl rfl) rfl rfl ?_
      refine RL.ev (.pick_f rfl rfl) rfl rfl ?_
      refine RL.nil (RC.back ?_)
      refine RC.cond_dec rfl (fun h22 => ?_) (fun h22 => ?_)
      ·
        have h39 := h22
        refine RC.exit rfl (RC.back ?_)
        refine RC.seq ?_
        refine RC.seq ?_
        refine RC.region rfl ?_
        refine RL.ev (.move rfl) rfl rfl ?_
        refine RL.ev (.as (v' := .int .i64 (L.length : Int)) (.len sl26 rfl) (by rw [List.length_map])) rfl rfl ?_
        refine RL.ev (.move rfl) rfl rfl ?_
        refine RL.nil (RC.back ?_)
        refine RC.block ?_
        refine RC.loop (α := Nat × (Ar × Option Addr × Option Addr × Nat × Nat) × Int × (Nat → Prop)) (fun y => [(3, .pointer (some ⟨b_3, 0, none⟩)), (4, .int .i64 0), (5, .int .u64 y.2.2.1), (110, .slice ra (L.map It.cells).length rc), (111, .int .i64 (L.length : Int)), (112, .int .i64 (y.1 : Int))]) (fun y w23 => y.1 ≤ L.length ∧ Ft M (fun u => Sl u ra 2 (L.map It.cells)) w23 ∧ Has w23 b_3 [.slice y.2.1.2.1 y.2.1.1.nodes.length y.2.1.2.2.2.1, .slice y.2.1.2.2.1 y.2.1.1.free.length y.2.1.2.2.2.2] 34 ∧ Ft y.2.2.2 (fun u => ArR u y.2.1.2.1 y.2.1.2.2.1 y.2.1.1) w23 ∧ (∀ k, y.2.2.2 k → k ≠ b_3) ∧ Sub w w23 ∧ U64 y.2.2.1 ∧ AOk y.2.1.1 ∧ IsH y.2.1.1 10 y.2.2.1 (L.drop y.1) ∧ y.2.1.1.nodes.length ≤ y.2.1.2.2.2.1 ∧ y.2.1.1.free.length ≤ y.2.1.2.2.2.2) (fun y => L.length - y.1) (0, (A, na, fa, nc, fc), r, M) (keep_of (by repeat (first | exact trivial | refine And.intro rfl ?_))) (⟨Nat.zero_le _, hK.imp fun u h => h.2, hb_3, hK.imp fun u h => h.1, d1, S, hu, hok, hT, hnc, hfc⟩) (fun y w23 hJ => ?_)
        obtain ⟨j, ⟨B, nb, fb, ncb, fcb⟩, rb, MB⟩ := y; obtain ⟨hj, hl, hb_3, hB, dB, S, hub, hokb, hTb, hncb, hfcb⟩ := hJ; simp only [] at hj hl hb_3 hB dB hub hokb hTb hncb hfcb; have hapb : Ap (L.drop j) := List.Pairwise.drop hap; have hlb : Low (L.drop j) := fun z hz => hlow z (List.mem_of_mem_drop hz)
        refine RC.seq ?_
        refine RC.region rfl ?_
        refine RL.ev (.bin rfl rfl rfl) rfl rfl ?_
        refine RL.nil (RC.back ?_)
        refine RC.seq ?_
        refine RC.cond_dec rfl (fun h24 => ?_) (fun h24 => ?_)
        ·
          obtain ⟨x, hx⟩ := getSome (l := L) (i := j) (by omega)
          have hdx : L.drop j = x :: L.drop (j + 1) := drop_consH hx
          have hxl := hlow x (List.mem_of_getElem? hx)
          refine RC.skip (RC.back ?_)
          refine RC.seq ?_
          refine RC.block ?_
          refine RC.seq ?_
          refine RC.region rfl ?_
          refine RL.ev (.indexS sl26 rfl rfl (by rw [List.length_map]; omega) (hl.now.is (i := 0) (by simp only [List.length_map, List.length_cons, List.length_nil]; omega))) rfl rfl ?_
          refine RL.ev (.loadR (x.cells) sh29 rfl (hl.now.rowAt (enc := It.cells) (i := j) hx) rfl) rfl rfl ?_
          refine RL.alloc ze29 rfl rfl (fun b_16 w_16 e_16 z_16 hb_16 s_16 => ?_)
          have ge_16 := S.le e_16
          have n_3__16 := hb_3.ne e_16
          have d_hl_b_16 := hl.neNew e_16
          have d_hB_b_16 := hB.neNew e_16
          have S := S.trans s_16
          have hb_3 := hb_3.sub s_16
          have hl := hl.sub s_16
          have hB := hB.sub s_16
          refine RL.store sh29 rfl rfl rfl hb_16 (by exact Nat.le_of_ble_eq_true rfl) (by rfl) rfl (fun w25 z25 hb_16 a25 => ?_)
          have S := S.upd a25 ge_16
          have hb_3 := hb_3.upd a25 n_3__16
          have hl := hl.updD a25 d_hl_b_16
          have hB := hB.updD a25 d_hB_b_16
          have hb_16 : Has w25 b_16 (x.cells) _ := hb_16.now (by kernel_rfl)
          refine RL.nil (RC.back ?_)
          refine RC.seq ?_
          refine RC.seq ?_
          refine RC.region rfl ?_
          refine RL.ev (.field0 fo34_1 rfl) rfl rfl ?_
          refine RL.ev (.load1 sh32 rfl (hb_3.cell rfl)) rfl rfl ?_
          refine RL.ev (.len sl32 rfl) rfl rfl ?_
          refine RL.ev (.bin rfl rfl rfl) rfl rfl ?_
          refine RL.nil (RC.back ?_)
          refine RC.cond_dec rfl (fun h26 => ?_) (fun h26 => ?_)
          ·
            have h119 := h26
            refine RC.seq ?_
            refine RC.region rfl ?_
            refine RL.call rfl ok31 (c_alive9 w25) rfl rfl ?_
            rintro _ w27 ⟨rfl, s28⟩
            have S := S.trans s28
            have hb_3 := hb_3.sub s28
            have hl := hl.sub s28
            have hB := hB.sub s28
            have hb_16 := hb_16.sub s28
            refine RL.ev (.assign rfl) rfl rfl ?_
            refine RL.nil (RC.back ?_)
            refine RC.done (rs := [.tmp 2]) (vs := [_]) rfl rfl ⟨rfl, trivial⟩ ?_
            -- end 3
            exact ⟨rfl, S⟩
          ·
            have h119 := h26
            refine RC.skip (RC.back ?_)
            refine RC.seq ?_
            refine RC.region rfl ?_
            refine RL.ev (.loadR ([.slice nb B.nodes.length ncb, .slice fb B.free.length fcb]) sh34 rfl hb_3.row rfl) rfl rfl ?_
            refine RL.ev (.move rfl) rfl rfl ?_
            refine RL.ev (.field0 fo29_0 rfl) rfl rfl ?_
            refine RL.ev (.load1 sh2 rfl (hb_16.cell rfl)) rfl rfl ?_
            refine RL.call rfl ok38 (c_hDel B nb fb ncb fcb hncb hfcb rb x.k hub (by unfold I64; omega) MB w25 hB) rfl rfl ?_
            rintro _ w29 ⟨s30, nb', fb', ncb', fcb', B', rb', eb', MB', rfl, hub', hncb', hfcb', hB', hup, hpp⟩
            have d_hB'_b_3 := upNe hup dB hb_3.lt
            have d_hB'_b_16 := upNe hup d_hB_b_16 hb_16.lt
            have S := S.trans s30
            have hb_3 := hb_3.sub s30
            have hl := hl.sub s30
            have hB := hB.sub s30
            have hb_16 := hb_16.sub s30
            obtain ⟨_, he0, hEb, hokb', hfb', hTb'⟩ := (hpp.low hokb hTb hapb hlb (.inl (by omega))).resolve_left (fun h => by rw [show hasK (L.drop j) x.k = true from hasK_iff.2 ⟨x, by rw [hdx]; simp, rfl⟩] at h; cases h.1)
            rw [hdx, del_head (hdx ▸ hapb)] at hTb'
            refine RL.ev (.move rfl) rfl rfl ?_
            refine RL.ev (.extract rfl rfl) rfl rfl ?_
            refine RL.ev (.extract rfl rfl) rfl rfl ?_
            refine RL.ev (.extract rfl rfl) rfl rfl ?_
            refine RL.alloc ze34 rfl rfl (fun b_17 w_17 e_17 z_17 hb_17 s_17 => ?_)
            have ge_17 := S.le e_17
            have n_3__17 := hb_3.ne e_17
            have n_16__17 := hb_16.ne e_17
            have d_hl_b_17 := hl.neNew e_17
            have d_hB'_b_17 := hB'.neNew e_17
            have S := S.trans s_17
            have hb_3 := hb_3.sub s_17
            have hl := hl.sub s_17
            have hb_16 := hb_16.sub s_17
            have hB' := hB'.sub s_17
            refine RL.store sh34 rfl rfl rfl hb_17 (by exact Nat.le_of_ble_eq_true rfl) (by rfl) rfl (fun w31 z31 hb_17 a31 => ?_)
            have S := S.upd a31 ge_17
            have hb_3 := hb_3.upd a31 n_3__17
            have hl := hl.updD a31 d_hl_b_17
            have hb_16 := hb_16.upd a31 n_16__17
            have hB' := hB'.updD a31 d_hB'_b_17
            have hb_17 : Has w31 b_17 ([.slice nb' B'.nodes.length ncb', .slice fb' B'.free.length fcb']) _ := hb_17.now (by kernel_rfl)
            refine RL.ev (.assign rfl) rfl rfl ?_
            refine RL.ev (.assign rfl) rfl rfl ?_
            refine RL.nil (RC.back ?_)
            refine RC.seq ?_
            refine RC.seq ?_
            refine RC.region rfl ?_
            refine RL.ev (.move rfl) rfl rfl ?_
            refine RL.ev (.as (v' := .bool false) (.bin rfl rfl rfl) (congrArg Value.bool (decide_eq_false (fun h => h he0)))) rfl rfl ?_
            refine RL.nil (RC.back ?_)
            refine RC.cond_f rfl ?_
            refine RC.skip (RC.back ?_)
            refine RC.region rfl ?_
            refine RL.ev (.loadR ([.slice nb' B'.nodes.length ncb', .slice fb' B'.free.length fcb']) sh34 rfl hb_17.row rfl) rfl rfl ?_
            refine RL.ev (.move rfl) rfl rfl ?_
            refine RL.store sh34 rfl rfl rfl hb_3 (by exact Nat.le_of_ble_eq_true rfl) (by rfl) rfl (fun w32 z32 hb_3 a32 => ?_)
            have S := S.upd a32 ge_3
            have hl := hl.updD a32 d1
            have hb_16 := hb_16.upd a32 n_3__16.symm
            have hB' := hB'.updD a32 d_hB'_b_3
            have hb_17 := hb_17.upd a32 n_3__17.symm
            have hb_3 : Has w32 b_3 ([.slice nb' B'.nodes.length ncb', .slice fb' B'.free.length fcb']) _ := hb_3.now (by kernel_rfl)
            refine RL.ev (.assign rfl) rfl rfl ?_
            refine RL.nil (RC.back ?_)
            refine RC.region rfl ?_
            refine RL.ev (.as (.bin rfl rfl rfl) (wi64 (y := ((j + 1 : Nat) : Int)) (by omega) (by omega))) rfl rfl ?_
            refine RL.ev (.move rfl) rfl rfl ?_
            exact RL.nil (fun a ka => ⟨(j + 1, (B', nb', fb', ncb', fcb'), rb', MB'), ⟨by omega, hl, hb_3, hB', d_hB'_b_3, S, hub', hokb', hTb', hncb', hfcb'⟩, by omega, ka.keep (keep_of (by repeat (first | exact trivial | refine And.intro rfl ?_)))⟩)
        ·
          obtain rfl : j = L.length := (by omega)
          rw [List.drop_length] at hTb
          have hr0 := isH_nil.1 hTb
          refine RC.exit rfl (RC.back ?_)
          refine RC.seq ?_
          refine RC.region rfl ?_
          refine RL.call rfl ok31 (c_alive9 w23) rfl rfl ?_
          rintro _ w33 ⟨rfl, s34⟩
          have S := S.trans s34
          have hb_3 := hb_3.sub s34
          have hl := hl.sub s34
          have hB := hB.sub s34
          refine RL.ev (.move rfl) rfl rfl ?_
          refine RL.ev (.move rfl) rfl rfl ?_
          refine RL.ev (.as (v' := .bool true) (.bin rfl rfl rfl) (congrArg Value.bool (decide_eq_true (rfl)))) rfl rfl ?_
          refine RL.ev (.pick_t rfl rfl) rfl rfl ?_
          refine RL.ev (.move rfl) rfl rfl ?_
          refine RL.ev (.move rfl) rfl rfl ?_
          refine RL.ev (.as (v' := .bool true) (.bin rfl rfl rfl) (congrArg Value.bool (decide_eq_true (hr0)))) rfl rfl ?_
          refine RL.ev (.pick_t rfl rfl) rfl rfl ?_
          refine RL.ev (.move rfl) rfl rfl ?_
          refine RL.ev (.loadR ([.slice nb B.nodes.length ncb, .slice fb B.free.length fcb]) sh34 rfl hb_3.row rfl) rfl rfl ?_
          refine RL.call rfl ok41 (c_r4Right B nb fb ncb fcb w33 hB.now) rfl rfl ?_
          rintro _ w35 ⟨rfl, s36⟩
          have S := S.trans s36
          have hb_3 := hb_3.sub s36
          have hl := hl.sub s36
          have hB := hB.sub s36
          refine RL.ev (.as (v' := .bool true) (.pick_t rfl rfl) (by rw [aokB_yes hokb])) rfl rfl ?_
          refine RL.ev (.assign rfl) rfl rfl ?_
          refine RL.nil (RC.back ?_)
          refine RC.done (rs := [.tmp 2]) (vs := [_]) rfl rfl ⟨rfl, trivial⟩ ?_
          -- end 4
          exact ⟨rfl, S⟩
      ·
        have h39 := h22
        refine RC.skip (RC.back ?_)
        refine RC.seq ?_
        refine RC.region rfl ?_
        refine RL.ev (.field0 fo72_1 rfl) rfl rfl ?_
        refine RL.ev (.load1 sh2 rfl (hb_10.cell rfl)) rfl rfl ?_
        refine RL.ev (.rem rfl rfl (by decide)) rfl rfl ?_
        refine RL.ev (.as (.bin rfl rfl rfl) (wi64 (y := x.k.tmod 30 + 30) (by rfl) (by omega))) rfl rfl ?_
        refine RL.ev (.as (v' := .int .i64 kk) (.rem rfl rfl (by decide)) (by rw [nmx.2.2, hkk])) rfl rfl ?_
        refine RL.ev (.assign rfl) rfl rfl ?_
        refine RL.nil (RC.back ?_)
        refine RC.seq ?_
        refine RC.region rfl ?_
        refine RL.alloc ze34 rfl rfl (fun b_12 w_12 e_12 z_12 hb_12 s_12 => ?_)
        have ge_12 := S.le e_12
        have n_3__12 := hb_3.ne e_12
        have n_10__12 := hb_10.ne e_12
        have d_hK_b_12 := hK.neNew e_12
        have S := S.trans s_12
        have hb_3 := hb_3.sub s_12
        have hK := hK.sub s_12
        have hb_10 := hb_10.sub s_12
        refine RL.nil (RC.back ?_)
        refine RC.seq ?_
        refine RC.region rfl ?_
        refine RL.ev (.assign rfl) rfl rfl ?_
        refine RL.nil (RC.back ?_)
        refine RC.seq ?_
        refine RC.region rfl ?_
        refine RL.ev (.assign rfl) rfl rfl ?_
        refine RL.nil (RC.back ?_)
        refine RC.seq ?_
        refine RC.seq ?_
        refine RC.region rfl ?_
        refine RL.ev (.move rfl) rfl rfl ?_
        refine RL.ev (.move rfl) rfl rfl ?_
        refine RL.ev (.assign rfl) rfl rfl ?_
        refine RL.ev (.assign rfl) rfl rfl ?_
        refine RL.nil (RC.back ?_)
        refine RC.seq ?_
        refine RC.region rfl ?_
        refine RL.ev (.field0 fo72_0 rfl) rfl rfl ?_
        refine RL.ev (.load1 sh4 rfl (hb_10.cell rfl)) rfl rfl ?_
        refine RL.nil (RC.back ?_)
        refine RC.cond rfl (fun h37 => ?_) (fun h37 => ?_)
        ·
          refine RC.seq ?_
          refine RC.region rfl ?_
          refine RL.ev (.loadR ([.slice na A.nodes.length nc, .slice fa A.free.length fc]) sh34 rfl hb_3.row rfl) rfl rfl ?_
          refine RL.ev (.move rfl) rfl rfl ?_
          refine RL.ev (.move rfl) rfl rfl ?_
          refine RL.call rfl ok38 (c_hDel A na fa nc fc hnc hfc r kk hu hki M w_12 (hK.imp fun u h => h.1)) rfl rfl ?_
          rintro _ w38 ⟨s39, na', fa', nc', fc', A', r', e', M', rfl, hu', hnc', hfc', hA', hup, hpp⟩
          have d_hA'_b_3 := upNe hup d1 hb_3.lt
          have d_hA'_b_10 := upNe hup d_hK_b_10 hb_10.lt
          have d_hA'_b_12 := upNe hup d_hK_b_12 hb_12.lt
          have S := S.trans s39
          have hb_3 := hb_3.sub s39
          have hK := hK.sub s39
          have hb_10 := hb_10.sub s39
          have hb_12 := hb_12.sub s39
          have hD := hpp.low hok hT hap hlow (.inl (by omega))
          refine RL.ev (.move rfl) rfl rfl ?_
          refine RL.ev (.extract rfl rfl) rfl rfl ?_
          refine RL.ev (.extract rfl rfl) rfl rfl ?_
          refine RL.ev (.extract rfl rfl) rfl rfl ?_
          refine RL.store sh34 rfl rfl rfl hb_12 (by exact Nat.le_of_ble_eq_true rfl) (by rfl) rfl (fun w40 z40 hb_12 a40 => ?_)
          have S := S.upd a40 ge_12
          have hb_3 := hb_3.upd a40 n_3__12
          have hK := hK.updD a40 d_hK_b_12
          have hb_10 := hb_10.upd a40 n_10__12
          have hA' := hA'.updD a40 d_hA'_b_12
          have hb_12 : Has w40 b_12 ([.slice na' A'.nodes.length nc', .slice fa' A'.free.length fc']) _ := hb_12.now (by kernel_rfl)
          refine RL.ev (.assign rfl) rfl rfl ?_
          refine RL.ev (.assign rfl) rfl rfl ?_
          refine RL.nil (RC.back ?_)
          refine RC.seq ?_
          refine RC.seq ?_
          refine RC.region rfl ?_
          refine RL.ev (.move rfl) rfl rfl ?_
          refine RL.ev (.bin rfl rfl rfl) rfl rfl ?_
          refine RL.ev (.move rfl) rfl rfl ?_
          refine RL.ev (.move rfl) rfl rfl ?_
          refine RL.call rfl ok20 (c_refAt6 L ra rc _ (List.length_map _) kk w40 hK.now.2 (by omega)) rfl rfl ?_
          rintro _ w41 ⟨s42, n, rfl, hn⟩
          have S := S.trans s42
          have hb_3 := hb_3.sub s42
          have hK := hK.sub s42
          have hb_10 := hb_10.sub s42
          have hb_12 := hb_12.sub s42
          have hA' := hA'.sub s42
          have hb : e' = 3 ↔ n < 0 := (by rcases hD with h | h; exact ⟨fun _ => (hn.resolve_right (fun g => by rw [h.1] at g; cases g.2.1)).1, fun _ => h.2⟩; exact ⟨fun e => by omega, fun e => by have g := hn.resolve_right (fun g => by omega); rw [h.1] at g; cases g.2⟩)
          have he03 : e' = 0 ∨ e' = 3 := (by rcases hD with h | h; exact .inr h.2; exact .inl h.2.1)
          refine RL.ev (.bin rfl rfl rfl) rfl rfl ?_
          refine RL.ev (.as (v' := .bool false) (.neB bo4 rfl rfl) (congrArg Value.bool (bneIff hb))) rfl rfl ?_
          refine RL.ev (.move rfl) rfl rfl ?_
          refine RL.ev (.move rfl) rfl rfl ?_
          refine RL.ev (.bin rfl rfl rfl) rfl rfl ?_
          refine RL.ev (.move rfl) rfl rfl ?_
          refine RL.split 68 rfl (fun h43 => ?_) (fun h43 => ?_)
          ·
            have h65 := h43
            refine RL.ev (.move rfl) rfl rfl ?_
            refine RL.ev (.as (v' := .bool false) (.bin rfl rfl rfl) (congrArg Value.bool (decide_eq_false (fun h => h (he03.resolve_left h65))))) rfl rfl ?_
            refine RL.ev (.pick_t rfl rfl) rfl rfl ?_
            refine RL.ev (.pick_f rfl rfl) rfl rfl ?_
            refine RL.nil (RC.back ?_)
            refine RC.cond_f rfl ?_
            refine RC.skip (RC.back ?_)
            refine RC.seq ?_
            refine RC.seq ?_
            refine RC.region rfl ?_
            refine RL.ev (.move rfl) rfl rfl ?_
            refine RL.ev (.bin rfl rfl rfl) rfl rfl ?_
            refine RL.nil (RC.back ?_)
            refine RC.cond_dec rfl (fun h44 => ?_) (fun h44 => ?_)
            ·
              have h71 := h44
              refine RC.exit rfl (RC.back ?_)
              refine RC.region rfl ?_
              refine RL.ev (.as (.bin rfl rfl rfl) (wi64 (y := ((i + 1 : Nat) : Int)) (by omega) (by omega))) rfl rfl ?_
              refine RL.ev (.move rfl) rfl rfl ?_
              exact RL.nil (fun a ka => ⟨(i + 1, (A, na, fa, nc, fc), r, M, (ra, rc, L)), ⟨⟨by omega, by show L.length ≤ _; omega⟩, ⟨hb_3, hK, d1, S, hu, hok, hT, hsrt, hlow, hnc, hfc⟩⟩, by omega, ka.keep (keep_of (by repeat (first | exact trivial | refine And.intro rfl ?_)))⟩)
            ·
              have h71 : e' = 0 := Decidable.not_not.1 h44
              obtain ⟨_, _, hE, hok', hf', hT'⟩ := hD.resolve_left (fun h => by omega)
              have hdl : (delL L kk).length ≤ L.length := List.length_filter_le _ _
              have hTn := hT'
              have hsn := delL_srt hsrt kk
              have hln : Low (delL L kk) := hlow.del
              have hpn : (delL L kk).length ≤ i + 1 := (by omega)
              refine RC.skip (RC.back ?_)
              refine RC.region rfl ?_
              refine RL.ev (.move rfl) rfl rfl ?_
              refine RL.ev (.move rfl) rfl rfl ?_
              refine RL.call rfl ok40 (c_refDel L ra rc _ (List.length_map _) kk w41 hK.now.2 (by omega)) rfl rfl ?_
              rintro _ w45 ⟨a1, c1, rfl, o1, s46⟩
              have q3 := owNw o1 hb_3.lt
              have q12 := owNw o1 hb_12.lt
              have S := S.trans s46
              have hb_3 := hb_3.sub s46
              have hK := hK.sub s46
              have hb_10 := hb_10.sub s46
              have hb_12 := hb_12.sub s46
              have hA' := hA'.sub s46
              obtain ⟨L', hL'⟩ : ∃ L', L' = delL L kk := ⟨_, rfl⟩
              rw [← hL'] at o1 q3 q12 hTn hsn hln hpn
              have hK2 := ((hA'.and hK).and o1.ft).imp (J := fun u => HI na' fa' A' a1 L' u ∧ Sl u ra 2 (L.map It.cells)) (fun u h => ⟨⟨h.1.1, h.2.sl.1⟩, h.1.2.2⟩)
              (try rw [← hL'])
              have dK3 : ∀ k, ((M' k ∨ M k) ∨ ob (.slice a1 (L'.map It.cells).length c1) = some k) → k ≠ b_3 := (fun k hk => hk.elim (fun hk => hk.elim (d_hA'_b_3 k) (d1 k)) (q3 k))
              have dK12 : ∀ k, ((M' k ∨ M k) ∨ ob (.slice a1 (L'.map It.cells).length c1) = some k) → k ≠ b_12 := (fun k hk => hk.elim (fun hk => hk.elim (d_hA'_b_12 k) (d_hK_b_12 k)) (q12 k))
              have hapn := hsn.ap
              have hTo := hT.ext hE
              have hmo' := hok'.most
              have hlo' := low_len hapn hln
              have hlo := low_len hap hlow
              refine RL.ev (.assign rfl) rfl rfl ?_
              refine RL.nil (RC.back ?_)
              refine RC.seq ?_
              refine RC.region rfl ?_
              refine RL.ev (.loadR ([.slice na' A'.nodes.length nc', .slice fa' A'.free.length fc']) sh34 rfl hb_12.row rfl) rfl rfl ?_
              refine RL.ev (.move rfl) rfl rfl ?_
              refine RL.store sh34 rfl rfl rfl hb_3 (by exact Nat.le_of_ble_eq_true rfl) (by rfl) rfl (fun w47 z47 hb_3 a47 => ?_)
              have S := S.upd a47 ge_3
              have hb_10 := hb_10.upd a47 n_3__10.symm
              have hb_12 := hb_12.upd a47 n_3__12.symm
              have hK2 := hK2.updD a47 dK3
              have hb_3 : Has w47 b_3 ([.slice na' A'.nodes.length nc', .slice fa' A'.free.length fc']) _ := hb_3.now (by kernel_rfl)
              refine RL.ev (.assign rfl) rfl rfl ?_
              refine RL.nil (RC.back ?_)
              refine RC.seq ?_
              refine RC.region rfl ?_
              refine RL.ev (.loadR ([.slice na' A'.nodes.length nc', .slice fa' A'.free.length fc']) sh34 rfl hb_3.row rfl) rfl rfl ?_
              refine RL.ev (.move rfl) rfl rfl ?_
              refine RL.ev (.move rfl) rfl rfl ?_
              refine RL.call rfl ok32 (c_isYesH A' na' fa' nc' fc' (by omega) r' L' L' (List.Perm.refl _) a1 c1 _ hapn (List.length_map _) hu' (by omega) hTn w47 hK2.now.1.1 hK2.now.1.2) rfl rfl ?_
              rintro _ w48 ⟨rfl, s49⟩
              have S := S.trans s49
              have hb_3 := hb_3.sub s49
              have hb_10 := hb_10.sub s49
              have hb_12 := hb_12.sub s49
              have hK2 := hK2.sub s49
              refine RL.ev (.not rfl) rfl rfl ?_
              refine RL.ev (.move rfl) rfl rfl ?_
              refine RL.ev (.loadR ([.slice na' A'.nodes.length nc', .slice fa' A'.free.length fc']) sh34 rfl hb_3.row rfl) rfl rfl ?_
              refine RL.ev (.move rfl) rfl rfl ?_
              refine RL.ev (.move rfl) rfl rfl ?_
              refine RL.call rfl ok32 (c_isYesH A' na' fa' nc' fc' (by omega) r L L (List.Perm.refl _) ra rc _ hap (List.length_map _) hu (by omega) hTo w48 hK2.now.1.1 hK2.now.2) rfl rfl ?_
              rintro _ w50 ⟨rfl, s51⟩
              have S := S.trans s51
              have hb_3 := hb_3.sub s51
              have hb_10 := hb_10.sub s51
              have hb_12 := hb_12.sub s51
              have hK2 := hK2.sub s51
              refine RL.ev (.not rfl) rfl rfl ?_
              refine RL.ev (.pick_f rfl rfl) rfl rfl ?_
              refine RL.nil (RC.back ?_)
              refine RC.cond_f rfl ?_
              refine RC.skip (RC.back ?_)
              refine RC.region rfl ?_
              refine RL.ev (.as (.bin rfl rfl rfl) (wi64 (y := ((i + 1 : Nat) : Int)) (by omega) (by omega))) rfl rfl ?_
              refine RL.ev (.move rfl) rfl rfl ?_
              exact RL.nil (fun a ka => ⟨(i + 1, (A', na', fa', nc', fc'), r', _, (a1, c1, L')), ⟨⟨by omega, hpn⟩, ⟨hb_3, hK2.imp fun u h => h.1, dK3, S, hu', hok', hTn, hsn, hln, hnc', hfc'⟩⟩, by omega, ka.keep (keep_of (by repeat (first | exact trivial | refine And.intro rfl ?_)))⟩)
          ·
            have h65 := h43
            refine RL.off rfl rfl ?_
            refine RL.off rfl rfl ?_
            refine RL.ev (.pick_f rfl rfl) rfl rfl ?_
            refine RL.ev (.pick_f rfl rfl) rfl rfl ?_
            refine RL.nil (RC.back ?_)
            refine RC.cond_f rfl ?_
            refine RC.skip (RC.back ?_)
            refine RC.seq ?_
            refine RC.seq ?_
            refine RC.region rfl ?_
            refine RL.ev (.move rfl) rfl rfl ?_
            refine RL.ev (.bin rfl rfl rfl) rfl rfl ?_
            refine RL.nil (RC.back ?_)
            refine RC.cond_dec rfl (fun h52 => ?_) (fun h52 => ?_)
            ·
              have h71 := h52
              refine RC.exit rfl (RC.back ?_)
              refine RC.region rfl ?_
              refine RL.ev (.as (.bin rfl rfl rfl) (wi64 (y := ((i + 1 : Nat) : Int)) (by omega) (by omega))) rfl rfl ?_
              refine RL.ev (.move rfl) rfl rfl ?_
              exact RL.nil (fun a ka => ⟨(i + 1, (A, na, fa, nc, fc), r, M, (ra, rc, L)), ⟨⟨by omega, by show L.length ≤ _; omega⟩, ⟨hb_3, hK, d1, S, hu, hok, hT, hsrt, hlow, hnc, hfc⟩⟩, by omega, ka.keep (keep_of (by repeat (first | exact trivial | refine And.intro rfl ?_)))⟩)
            ·
              have h71 : e' = 0 := Decidable.not_not.1 h52
              obtain ⟨_, _, hE, hok', hf', hT'⟩ := hD.resolve_left (fun h => by omega)
              have hdl : (delL L kk).length ≤ L.length := List.length_filter_le _ _
              have hTn := hT'
              have hsn := delL_srt hsrt kk
              have hln : Low (delL L kk) := hlow.del
              have hpn : (delL L kk).length ≤ i + 1 := (by omega)
              refine RC.skip (RC.back ?_)
              refine RC.region rfl ?_
              refine RL.ev (.move rfl) rfl rfl ?_
              refine RL.ev (.move rfl) rfl rfl ?_
              refine RL.call rfl ok40 (c_refDel L ra rc _ (List.length_map _) kk w41 hK.now.2 (by omega)) rfl rfl ?_
              rintro _ w53 ⟨a1, c1, rfl, o1, s54⟩
              have q3 := owNw o1 hb_3.lt
              have q12 := owNw o1 hb_12.lt
              have S := S.trans s54
              have hb_3 := hb_3.sub s54
              have hK := hK.sub s54
              have hb_10 := hb_10.sub s54
              have hb_12 := hb_12.sub s54
              have hA' := hA'.sub s54
              obtain ⟨L', hL'⟩ : ∃ L', L' = delL L kk := ⟨_, rfl⟩
              rw [← hL'] at o1 q3 q12 hTn hsn hln hpn
              have hK2 := ((hA'.and hK).and o1.ft).imp (J := fun u => HI na' fa' A' a1 L' u ∧ Sl u ra 2 (L.map It.cells)) (fun u h => ⟨⟨h.1.1, h.2.sl.1⟩, h.1.2.2⟩)
              (try rw [← hL'])
              have dK3 : ∀ k, ((M' k ∨ M k) ∨ ob (.slice a1 (L'.map It.cells).length c1) = some k) → k ≠ b_3 := (fun k hk => hk.elim (fun hk => hk.elim (d_hA'_b_3 k) (d1 k)) (q3 k))
              have dK12 : ∀ k, ((M' k ∨ M k) ∨ ob (.slice a1 (L'.map It.cells).length c1) = some k) → k ≠ b_12 := (fun k hk => hk.elim (fun hk => hk.elim (d_hA'_b_12 k) (d_hK_b_12 k)) (q12 k))
              have hapn := hsn.ap
              have hTo := hT.ext hE
              have hmo' := hok'.most
              have hlo' := low_len hapn hln
              have hlo := low_len hap hlow
              refine RL.ev (.assign rfl) rfl rfl ?_
              refine RL.nil (RC.back ?_)
              refine RC.seq ?_
              refine RC.region rfl ?_
              refine RL.ev (.loadR ([.slice na' A'.nodes.length nc', .slice fa' A'.free.length fc']) sh34 rfl hb_12.row rfl) rfl rfl ?_
              refine RL.ev (.move rfl) rfl rfl ?_
              refine RL.store sh34 rfl rfl rfl hb_3 (by exact Nat.le_of_ble_eq_true rfl) (by rfl) rfl (fun w55 z55 hb_3 a55 => ?_)
              have S := S.upd a55 ge_3
              have hb_10 := hb_10.upd a55 n_3__10.symm
              have hb_12 := hb_12.upd a55 n_3__12.symm
              have hK2 := hK2.updD a55 dK3
              have hb_3 : Has w55 b_3 ([.slice na' A'.nodes.length nc', .slice fa' A'.free.length fc']) _ := hb_3.now (by kernel_rfl)
              refine RL.ev (.assign rfl) rfl rfl ?_
              refine RL.nil (RC.back ?_)
              refine RC.seq ?_
              refine RC.region rfl ?_
              refine RL.ev (.loadR ([.slice na' A'.nodes.length nc', .slice fa' A'.free.length fc']) sh34 rfl hb_3.row rfl) rfl rfl ?_
              refine RL.ev (.move rfl) rfl rfl ?_
              refine RL.ev (.move rfl) rfl rfl ?_
              refine RL.call rfl ok32 (c_isYesH A' na' fa' nc' fc' (by omega) r' L' L' (List.Perm.refl _) a1 c1 _ hapn (List.length_map _) hu' (by omega) hTn w55 hK2.now.1.1 hK2.now.1.2) rfl rfl ?_
              rintro _ w56 ⟨rfl, s57⟩
              have S := S.trans s57
              have hb_3 := hb_3.sub s57
              have hb_10 := hb_10.sub s57
              have hb_12 := hb_12.sub s57
              have hK2 := hK2.sub s57
              refine RL.ev (.not rfl) rfl rfl ?_
              refine RL.ev (.move rfl) rfl rfl ?_
              refine RL.ev (.loadR ([.slice na' A'.nodes.length nc', .slice fa' A'.free.length fc']) sh34 rfl hb_3.row rfl) rfl rfl ?_
              refine RL.ev (.move rfl) rfl rfl ?_
              refine RL.ev (.move rfl) rfl rfl ?_
              refine RL.call rfl ok32 (c_isYesH A' na' fa' nc' fc' (by omega) r L L (List.Perm.refl _) ra rc _ hap (List.length_map _) hu (by omega) hTo w56 hK2.now.1.1 hK2.now.2) rfl rfl ?_
              rintro _ w58 ⟨rfl, s59⟩
              have S := S.trans s59
              have hb_3 := hb_3.sub s59
              have hb_10 := hb_10.sub s59
              have hb_12 := hb_12.sub s59
              have hK2 := hK2.sub s59
              refine RL.ev (.not rfl) rfl rfl ?_
              refine RL.ev (.pick_f rfl rfl) rfl rfl ?_
              refine RL.nil (RC.back ?_)
              refine RC.cond_f rfl ?_
              refine RC.skip (RC.back ?_)
              refine RC.region rfl ?_
              refine RL.ev (.as (.bin rfl rfl rfl) (wi64 (y := ((i + 1 : Nat) : Int)) (by omega) (by omega))) rfl rfl ?_
              refine RL.ev (.move rfl) rfl rfl ?_
              exact RL.nil (fun a ka => ⟨(i + 1, (A', na', fa', nc', fc'), r', _, (a1, c1, L')), ⟨⟨by omega, hpn⟩, ⟨hb_3, hK2.imp fun u h => h.1, dK3, S, hu', hok', hTn, hsn, hln, hnc', hfc'⟩⟩, by omega, ka.keep (keep_of (by repeat (first | exact trivial | refine And.intro rfl ?_)))⟩)
        ·
          refine RC.seq ?_
          refine RC.region rfl ?_
          refine RL.ev (.loadR ([.slice na A.nodes.length nc, .slice fa A.free.length fc]) sh34 rfl hb_3.row rfl) rfl rfl ?_
          refine RL.ev (.move rfl) rfl rfl ?_
          refine RL.ev (.move rfl) rfl rfl ?_
          refine RL.ev (.field0 fo72_2 rfl) rfl rfl ?_
          refine RL.ev (.load1 sh2 rfl (hb_10.cell rfl)) rfl rfl ?_
          refine RL.call rfl ok30 (c_hPut A na fa nc fc hnc hfc r kk x.v hu hki hxv M w_12 (hK.imp fun u h => h.1)) rfl rfl ?_
          rintro _ w60 ⟨s61, na', fa', nc', fc', A', r', e', M', rfl, hu', hnc', hfc', hA', hup, hpp⟩
          have d_hA'_b_3 := upNe hup d1 hb_3.lt
          have d_hA'_b_10 := upNe hup d_hK_b_10 hb_10.lt
          have d_hA'_b_12 := upNe hup d_hK_b_12 hb_12.lt
          have S := S.trans s61
          have hb_3 := hb_3.sub s61
          have hK := hK.sub s61
          have hb_10 := hb_10.sub s61
          have hb_12 := hb_12.sub s61
          obtain ⟨he0, hE, hok', hf', hT'⟩ := hpp.low hok hT hap hlow hkr (.inl (by omega))
          have hTn := hT'.perm (putR_putM L kk x.v).symm
          have hsn := putR_ok hsrt kk x.v
          have hln := putR_low (v := x.v) hlow hkr
          have hpn : (putR L kk x.v).length ≤ i + 1 := Nat.le_trans (putR_len L kk x.v) (by omega)
          refine RL.ev (.move rfl) rfl rfl ?_
          refine RL.ev (.extract rfl rfl) rfl rfl ?_
          refine RL.ev (.extract rfl rfl) rfl rfl ?_
          refine RL.ev (.extract rfl rfl) rfl rfl ?_
          refine RL.store sh34 rfl rfl rfl hb_12 (by exact Nat.le_of_ble_eq_true rfl) (by rfl) rfl (fun w62 z62 hb_12 a62 => ?_)
          have S := S.upd a62 ge_12
          have hb_3 := hb_3.upd a62 n_3__12
          have hK := hK.updD a62 d_hK_b_12
          have hb_10 := hb_10.upd a62 n_10__12
          have hA' := hA'.updD a62 d_hA'_b_12
          have hb_12 : Has w62 b_12 ([.slice na' A'.nodes.length nc', .slice fa' A'.free.length fc']) _ := hb_12.now (by kernel_rfl)
          refine RL.ev (.assign rfl) rfl rfl ?_
          refine RL.ev (.assign rfl) rfl rfl ?_
          refine RL.nil (RC.back ?_)
          refine RC.seq ?_
          refine RC.seq ?_
          refine RC.region rfl ?_
          refine RL.ev (.move rfl) rfl rfl ?_
          refine RL.ev (.as (v' := .bool false) (.bin rfl rfl rfl) (congrArg Value.bool (decide_eq_false (fun h => h he0)))) rfl rfl ?_
          refine RL.nil (RC.back ?_)
          refine RC.cond_f rfl ?_
          refine RC.skip (RC.back ?_)
          refine RC.region rfl ?_
          refine RL.ev (.move rfl) rfl rfl ?_
          refine RL.ev (.move rfl) rfl rfl ?_
          refine RL.ev (.field0 fo72_2 rfl) rfl rfl ?_
          refine RL.ev (.load1 sh2 rfl (hb_10.cell rfl)) rfl rfl ?_
          refine RL.call rfl ok16 (c_refPut L ra rc _ (List.length_map _) kk x.v w62 hK.now.2 (by omega)) rfl rfl ?_
          rintro _ w63 ⟨a1, c1, rfl, o1, s64⟩
          have q3 := owNw o1 hb_3.lt
          have q12 := owNw o1 hb_12.lt
          have S := S.trans s64
          have hb_3 := hb_3.sub s64
          have hK := hK.sub s64
          have hb_10 := hb_10.sub s64
          have hb_12 := hb_12.sub s64
          have hA' := hA'.sub s64
          obtain ⟨L', hL'⟩ : ∃ L', L' = putR L kk x.v := ⟨_, rfl⟩
          rw [← hL'] at o1 q3 q12 hTn hsn hln hpn
          have hK2 := ((hA'.and hK).and o1.ft).imp (J := fun u => HI na' fa' A' a1 L' u ∧ Sl u ra 2 (L.map It.cells)) (fun u h => ⟨⟨h.1.1, h.2.sl.1⟩, h.1.2.2⟩)
          (try rw [← hL'])
          have dK3 : ∀ k, ((M' k ∨ M k) ∨ ob (.slice a1 (L'.map It.cells).length c1) = some k) → k ≠ b_3 := (fun k hk => hk.elim (fun hk => hk.elim (d_hA'_b_3 k) (d1 k)) (q3 k))
          have dK12 : ∀ k, ((M' k ∨ M k) ∨ ob (.slice a1 (L'.map It.cells).length c1) = some k) → k ≠ b_12 := (fun k hk => hk.elim (fun hk => hk.elim (d_hA'_b_12 k) (d_hK_b_12 k)) (q12 k))
          have hapn := hsn.ap
          have hTo := hT.ext hE
          have hmo' := hok'.most
          have hlo' := low_len hapn hln
          have hlo := low_len hap hlow
          refine RL.ev (.assign rfl) rfl rfl ?_
          refine RL.nil (RC.back ?_)
          refine RC.seq ?_
          refine RC.region rfl ?_
          refine RL.ev (.loadR ([.slice na' A'.nodes.length nc', .slice fa' A'.free.length fc']) sh34 rfl hb_12.row rfl) rfl rfl ?_
          refine RL.ev (.move rfl) rfl rfl ?_
          refine RL.store sh34 rfl rfl rfl hb_3 (by exact Nat.le_of_ble_eq_true rfl) (by rfl) rfl (fun w65 z65 hb_3 a65 => ?_)
          have S := S.upd a65 ge_3
          have hb_10 := hb_10.upd a65 n_3__10.symm
          have hb_12 := hb_12.upd a65 n_3__12.symm
          have hK2 := hK2.updD a65 dK3
          have hb_3 : Has w65 b_3 ([.slice na' A'.nodes.length nc', .slice fa' A'.free.length fc']) _ := hb_3.now (by kernel_rfl)
          refine RL.ev (.assign rfl) rfl rfl ?_
          refine RL.nil (RC.back ?_)
          refine RC.seq ?_
          refine RC.region rfl ?_
          refine RL.ev (.loadR ([.slice na' A'.nodes.length nc', .slice fa' A'.free.length fc']) sh34 rfl hb_3.row rfl) rfl rfl ?_
          refine RL.ev (.move rfl) rfl rfl ?_
          refine RL.ev (.move rfl) rfl rfl ?_
          refine RL.call rfl ok32 (c_isYesH A' na' fa' nc' fc' (by omega) r' L' L' (List.Perm.refl _) a1 c1 _ hapn (List.length_map _) hu' (by omega) hTn w65 hK2.now.1.1 hK2.now.1.2) rfl rfl ?_
          rintro _ w66 ⟨rfl, s67⟩
          have S := S.trans s67
          have hb_3 := hb_3.sub s67
          have hb_10 := hb_10.sub s67
          have hb_12 := hb_12.sub s67
          have hK2 := hK2.sub s67
          refine RL.ev (.not rfl) rfl rfl ?_
          refine RL.ev (.move rfl) rfl rfl ?_
          refine RL.ev (.loadR ([.slice na' A'.nodes.length nc', .slice fa' A'.free.length fc']) sh34 rfl hb_3.row rfl) rfl rfl ?_
          refine RL.ev (.move rfl) rfl rfl ?_
          refine RL.ev (.move rfl) rfl rfl ?_
          refine RL.call rfl ok32 (c_isYesH A' na' fa' nc' fc' (by omega) r L L (List.Perm.refl _) ra rc _ hap (List.length_map _) hu (by omega) hTo w66 hK2.now.1.1 hK2.now.2) rfl rfl ?_
          rintro _ w68 ⟨rfl, s69⟩
          have S := S.trans s69
          have hb_3 := hb_3.sub s69
          have hb_10 := hb_10.sub s69
          have hb_12 := hb_12.sub s69
          have hK2 := hK2.sub s69
          refine RL.ev (.not rfl) rfl rfl ?_
          refine RL.ev (.pick_f rfl rfl) rfl rfl ?_
          refine RL.nil (RC.back ?_)
          refine RC.cond_f rfl ?_
          refine RC.skip (RC.back ?_)
          refine RC.region rfl ?_
          refine RL.ev (.as (.bin rfl rfl rfl) (wi64 (y := ((i + 1 : Nat) : Int)) (by omega) (by omega))) rfl rfl ?_
          refine RL.ev (.move rfl) rfl rfl ?_
          exact RL.nil (fun a ka => ⟨(i + 1, (A', na', fa', nc', fc'), r', _, (a1, c1, L')), ⟨⟨by omega, hpn⟩, ⟨hb_3, hK2.imp fun u h => h.1, dK3, S, hu', hok', hTn, hsn, hln, hnc', hfc'⟩⟩, by omega, ka.keep (keep_of (by repeat (first | exact trivial | refine And.intro rfl ?_)))⟩)
  ·
    refine RC.exit rfl (RC.back ?_)
    refine RC.seq ?_
    refine RC.seq ?_
    refine RC.region rfl ?_
    refine RL.ev (.move rfl) rfl rfl ?_
    refine RL.ev (.as (v' := .int .i64 (L.length : Int)) (.len sl26 rfl) (by rw [List.length_map])) rfl rfl ?_
    refine RL.ev (.move rfl) rfl rfl ?_
    refine RL.nil (RC.back ?_)
    refine RC.block ?_
    refine RC.loop (α := Nat × (Ar × Option Addr × Option Addr × Nat × Nat) × Int × (Nat → Prop)) (fun y => [(3, .pointer (some ⟨b_3, 0, none⟩)), (4, .int .i64 0), (5, .int .u64 y.2.2.1), (110, .slice ra (L.map It.cells).length rc), (111, .int .i64 (L.length : Int)), (112, .int .i64 (y.1 : Int))]) (fun y w70 => y.1 ≤ L.length ∧ Ft M (fun u => Sl u ra 2 (L.map It.cells)) w70 ∧ Has w70 b_3 [.slice y.2.1.2.1 y.2.1.1.nodes.length y.2.1.2.2.2.1, .slice y.2.1.2.2.1 y.2.1.1.free.length y.2.1.2.2.2.2] 34 ∧ Ft y.2.2.2 (fun u => ArR u y.2.1.2.1 y.2.1.2.2.1 y.2.1.1) w70 ∧ (∀ k, y.2.2.2 k → k ≠ b_3) ∧ Sub w w70 ∧ U64 y.2.2.1 ∧ AOk y.2.1.1 ∧ IsH y.2.1.1 10 y.2.2.1 (L.drop y.1) ∧ y.2.1.1.nodes.length ≤ y.2.1.2.2.2.1 ∧ y.2.1.1.free.length ≤ y.2.1.2.2.2.2) (fun y => L.length - y.1) (0, (A, na, fa, nc, fc), r, M) (keep_of (by repeat (first | exact trivial | refine And.intro rfl ?_))) (⟨Nat.zero_le _, hK.imp fun u h => h.2, hb_3, hK.imp fun u h => h.1, d1, S, hu, hok, hT, hnc, hfc⟩) (fun y w70 hJ => ?_)
    obtain ⟨j, ⟨B, nb, fb, ncb, fcb⟩, rb, MB⟩ := y; obtain ⟨hj, hl, hb_3, hB, dB, S, hub, hokb, hTb, hncb, hfcb⟩ := hJ; simp only [] at hj hl hb_3 hB dB hub hokb hTb hncb hfcb; have hapb : Ap (L.drop j) := List.Pairwise.drop hap; have hlb : Low (L.drop j) := fun z hz => hlow z (List.mem_of_mem_drop hz)
    refine RC.seq ?_
    refine RC.region rfl ?_
    refine RL.ev (.bin rfl rfl rfl) rfl rfl ?_
    refine RL.nil (RC.back ?_)
    refine RC.seq ?_
    refine RC.cond_dec rfl (fun h71 => ?_) (fun h71 => ?_)
    ·
      obtain ⟨x, hx⟩ := getSome (l := L) (i := j) (by omega)
      have hdx : L.drop j = x :: L.drop (j + 1) := drop_consH hx
      have hxl := hlow x (List.mem_of_getElem? hx)
      refine RC.skip (RC.back ?_)
      refine RC.seq ?_
      refine RC.block ?_
      refine RC.seq ?_
      refine RC.region rfl ?_
      refine RL.ev (.indexS sl26 rfl rfl (by rw [List.length_map]; omega) (hl.now.is (i := 0) (by simp only [List.length_map, List.length_cons, List.length_nil]; omega))) rfl rfl ?_
      refine RL.ev (.loadR (x.cells) sh29 rfl (hl.now.rowAt (enc := It.cells) (i := j) hx) rfl) rfl rfl ?_
      refine RL.alloc ze29 rfl rfl (fun b_16 w_16 e_16 z_16 hb_16 s_16 => ?_)
      have ge_16 := S.le e_16
      have n_3__16 := hb_3.ne e_16
      have d_hl_b_16 := hl.neNew e_16
      have d_hB_b_16 := hB.neNew e_16
      have S := S.trans s_16
      have hb_3 := hb_3.sub s_16
      have hl := hl.sub s_16
      have hB := hB.sub s_16
      refine RL.store sh29 rfl rfl rfl hb_16 (by exact Nat.le_of_ble_eq_true rfl) (by rfl) rfl (fun w72 z72 hb_16 a72 => ?_)
      have S := S.upd a72 ge_16
      have hb_3 := hb_3.upd a72 n_3__16
      have hl := hl.updD a72 d_hl_b_16
      have hB := hB.updD a72 d_hB_b_16
      have hb_16 : Has w72 b_16 (x.cells) _ := hb_16.now (by kernel_rfl)
      refine RL.nil (RC.back ?_)
      refine RC.seq ?_
      refine RC.seq ?_
      refine RC.region rfl ?_
      refine RL.ev (.field0 fo34_1 rfl) rfl rfl ?_
      refine RL.ev (.load1 sh32 rfl (hb_3.cell rfl)) rfl rfl ?_
      refine RL.ev (.len sl32 rfl) rfl rfl ?_
      refine RL.ev (.bin rfl rfl rfl) rfl rfl ?_
      refine RL.nil (RC.back ?_)
      refine RC.cond_dec rfl (fun h73 => ?_) (fun h73 => ?_)
      ·
        have h119 := h73
        refine RC.seq ?_
        refine RC.region rfl ?_
        refine RL.call rfl ok31 (c_alive9 w72) rfl rfl ?_
        rintro _ w74 ⟨rfl, s75⟩
        have S := S.trans s75
        have hb_3 := hb_3.sub s75
        have hl := hl.sub s75
        have hB := hB.sub s75
        have hb_16 := hb_16.sub s75
        refine RL.ev (.assign rfl) rfl rfl ?_
        refine RL.nil (RC.back ?_)
        refine RC.done (rs := [.tmp 2]) (vs := [_]) rfl rfl ⟨rfl, trivial⟩ ?_
        -- end 5
        exact ⟨rfl, S⟩
      ·
        have h119 := h73
        refine RC.skip (RC.back ?_)
        refine RC.seq ?_
        refine RC.region rfl ?_
        refine RL.ev (.loadR ([.slice nb B.nodes.length ncb, .slice fb B.free.length fcb]) sh34 rfl hb_3.row rfl) rfl rfl ?_
        refine RL.ev (.move rfl) rfl rfl ?_
        refine RL.ev (.field0 fo29_0 rfl) rfl rfl ?_
        refine RL.ev (.load1 sh2 rfl (hb_16.cell rfl)) rfl rfl ?_
        refine RL.call rfl ok38 (c_hDel B nb fb ncb fcb hncb hfcb rb x.k hub (by unfold I64; omega) MB w72 hB) rfl rfl ?_
        rintro _ w76 ⟨s77, nb', fb', ncb', fcb', B', rb', eb', MB', rfl, hub', hncb', hfcb', hB', hup, hpp⟩
        have d_hB'_b_3 := upNe hup dB hb_3.lt
        have d_hB'_b_16 := upNe hup d_hB_b_16 hb_16.lt
        have S := S.trans s77
        have hb_3 := hb_3.sub s77
        have hl := hl.sub s77
        have hB := hB.sub s77
        have hb_16 := hb_16.sub s77
        obtain ⟨_, he0, hEb, hokb', hfb', hTb'⟩ := (hpp.low hokb hTb hapb hlb (.inl (by omega))).resolve_left (fun h => by rw [show hasK (L.drop j) x.k = true from hasK_iff.2 ⟨x, by rw [hdx]; simp, rfl⟩] at h; cases h.1)
        rw [hdx, del_head (hdx ▸ hapb)] at hTb'
        refine RL.ev (.move rfl) rfl rfl ?_
        refine RL.ev (.extract rfl rfl) rfl rfl ?_
        refine RL.ev (.extract rfl rfl) rfl rfl ?_
        refine RL.ev (.extract rfl rfl) rfl rfl ?_
        refine RL.alloc ze34 rfl rfl (fun b_17 w_17 e_17 z_17 hb_17 s_17 => ?_)
        have ge_17 := S.le e_17
        have n_3__17 := hb_3.ne e_17
        have n_16__17 := hb_16.ne e_17
        have d_hl_b_17 := hl.neNew e_17
        have d_hB'_b_17 := hB'.neNew e_17
        have S := S.trans s_17
        have hb_3 := hb_3.sub s_17
        have hl := hl.sub s_17
        have hb_16 := hb_16.sub s_17
        have hB' := hB'.sub s_17
        refine RL.store sh34 rfl rfl rfl hb_17 (by exact Nat.le_of_ble_eq_true rfl) (by rfl) rfl (fun w78 z78 hb_17 a78 => ?_)
        have S := S.upd a78 ge_17
        have hb_3 := hb_3.upd a78 n_3__17
        have hl := hl.updD a78 d_hl_b_17
        have hb_16 := hb_16.upd a78 n_16__17
        have hB' := hB'.updD a78 d_hB'_b_17
        have hb_17 : Has w78 b_17 ([.slice nb' B'.nodes.length ncb', .slice fb' B'.free.length fcb']) _ := hb_17.now (by kernel_rfl)
        refine RL.ev (.assign rfl) rfl rfl ?_
        refine RL.ev (.assign rfl) rfl rfl ?_
        refine RL.nil (RC.back ?_)
        refine RC.seq ?_
        refine RC.seq ?_
        refine RC.region rfl ?_
        refine RL.ev (.move rfl) rfl rfl ?_
        refine RL.ev (.as (v' := .bool false) (.bin rfl rfl rfl) (congrArg Value.bool (decide_eq_false (fun h => h he0)))) rfl rfl ?_
        refine RL.nil (RC.back ?_)
        refine RC.cond_f rfl ?_
        refine RC.skip (RC.back ?_)
        refine RC.region rfl ?_
        refine RL.ev (.loadR ([.slice nb' B'.nodes.length ncb', .slice fb' B'.free.length fcb']) sh34 rfl hb_17.row rfl) rfl rfl ?_
        refine RL.ev (.move rfl) rfl rfl ?_
        refine RL.store sh34 rfl rfl rfl hb_3 (by exact Nat.le_of_ble_eq_true rfl) (by rfl) rfl (fun w79 z79 hb_3 a79 => ?_)
        have S := S.upd a79 ge_3
        have hl := hl.updD a79 d1
        have hb_16 := hb_16.upd a79 n_3__16.symm
        have hB' := hB'.updD a79 d_hB'_b_3
        have hb_17 := hb_17.upd a79 n_3__17.symm
        have hb_3 : Has w79 b_3 ([.slice nb' B'.nodes.length ncb', .slice fb' B'.free.length fcb']) _ := hb_3.now (by kernel_rfl)
        refine RL.ev (.assign rfl) rfl rfl ?_
        refine RL.nil (RC.back ?_)
        refine RC.region rfl ?_
        refine RL.ev (.as (.bin rfl rfl rfl) (wi64 (y := ((j + 1 : Nat) : Int)) (by omega) (by omega))) rfl rfl ?_
        refine RL.ev (.move rfl) rfl rfl ?_
        exact RL.nil (fun a ka => ⟨(j + 1, (B', nb', fb', ncb', fcb'), rb', MB'), ⟨by omega, hl, hb_3, hB', d_hB'_b_3, S, hub', hokb', hTb', hncb', hfcb'⟩, by omega, ka.keep (keep_of (by repeat (first | exact trivial | refine And.intro rfl ?_)))⟩)
    ·
      obtain rfl : j = L.length := (by omega)
      rw [List.drop_length] at hTb
      have hr0 := isH_nil.1 hTb
      refine RC.exit rfl (RC.back ?_)
      refine RC.seq ?_
      refine RC.region rfl ?_
      refine RL.call rfl ok31 (c_alive9 w70) rfl rfl ?_
      rintro _ w80 ⟨rfl, s81⟩
      have S := S.trans s81
      have hb_3 := hb_3.sub s81
      have hl := hl.sub s81
      have hB := hB.sub s81
      refine RL.ev (.move rfl) rfl rfl ?_
      refine RL.ev (.move rfl) rfl rfl ?_
      refine RL.ev (.as (v' := .bool true) (.bin rfl rfl rfl) (congrArg Value.bool (decide_eq_true (rfl)))) rfl rfl ?_
      refine RL.ev (.pick_t rfl rfl) rfl rfl ?_
      refine RL.ev (.move rfl) rfl rfl ?_
      refine RL.ev (.move rfl) rfl rfl ?_
      refine RL.ev (.as (v' := .bool true) (.bin rfl rfl rfl) (congrArg Value.bool (decide_eq_true (hr0)))) rfl rfl ?_
      refine RL.ev (.pick_t rfl rfl) rfl rfl ?_
      refine RL.ev (.move rfl) rfl rfl ?_
      refine RL.ev (.loadR ([.slice nb B.nodes.length ncb, .slice fb B.free.length fcb]) sh34 rfl hb_3.row rfl) rfl rfl ?_
      refine RL.call rfl ok41 (c_r4Right B nb fb ncb fcb w80 hB.now) rfl rfl ?_
      rintro _ w82 ⟨rfl, s83⟩
      have S := S.trans s83
      have hb_3 := hb_3.sub s83
      have hl := hl.sub s83
      have hB := hB.sub s83
      refine RL.ev (.as (v' := .bool true) (.pick_t rfl rfl) (by rw [aokB_yes hokb])) rfl rfl ?_
      refine RL.ev (.assign rfl) rfl rfl ?_
      refine RL.nil (RC.back ?_)
      refine RC.done (rs := [.tmp 2]) (vs := [_]) rfl rfl ⟨rfl, trivial⟩ ?_
      -- end 6
      exact ⟨rfl, S⟩
end Go.Proofs.Ytbfjobmebkhblaa
