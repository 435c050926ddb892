/-
  The forest's methods, walked: find, put, del, end.
-/
import Derived.Test.YtdmaogopibljoaaForestW
set_option linter.unusedVariables false
set_option linter.unusedSimpArgs false
namespace Go.Proofs.Ytdmaogopibljoaa
open Go Go.XL

theorem find_lt {L R : List It} {it : It} {key : Int} (h : Srt (L ++ it :: R)) (q : key < it.k) : (∃ y ∈ L ++ it :: R, y.k = key) ↔ ∃ y ∈ L, y.k = key := by
  constructor
  · rintro ⟨y, hy, e⟩
    rcases List.mem_append.1 hy with hy | hy
    · exact ⟨y, hy, e⟩
    · rcases List.mem_cons.1 hy with rfl | hy
      · omega
      · have := h.split.2.2.2 y hy; omega
  · rintro ⟨y, hy, e⟩
    exact ⟨y, List.mem_append_left _ hy, e⟩
theorem find_gt {L R : List It} {it : It} {key : Int} (h : Srt (L ++ it :: R)) (q : it.k < key) : (∃ y ∈ L ++ it :: R, y.k = key) ↔ ∃ y ∈ R, y.k = key := by
  constructor
  · rintro ⟨y, hy, e⟩
    rcases List.mem_append.1 hy with hy | hy
    · have := h.split.2.2.1 y hy; omega
    · rcases List.mem_cons.1 hy with rfl | hy
      · omega
      · exact ⟨y, hy, e⟩
  · rintro ⟨y, hy, e⟩
    exact ⟨y, List.mem_append_right _ (List.mem_cons_of_mem _ hy), e⟩
theorem srt_key {L : List It} (h : Srt L) {x y : It} (hx : x ∈ L) (hy : y ∈ L) (e : x.k = y.k) : x = y := by
  induction L with
  | nil => cases hx
  | cons z L ih =>
    have h2 := List.pairwise_cons.1 h
    rcases List.mem_cons.1 hx with e1 | hx'
    · rcases List.mem_cons.1 hy with e2 | hy'
      · rw [e1, e2]
      · have := h2.1 y hy'; rw [e1] at e; omega
    · rcases List.mem_cons.1 hy with e2 | hy'
      · have := h2.1 x hx'; rw [e2] at e; omega
      · exact ih h2.2 hx' hy'
/-- the value of a key -/
def FindP (L : List It) (key : Int) (v : Value) : Prop := (∃ x ∈ L, x.k = key ∧ v = .tuple #[.int .i64 x.v, .bool true]) ∨ (∀ x ∈ L, ¬ x.k = key) ∧ v = .tuple #[.int .i64 0, .bool false]
theorem c_ffind (bf : Nat) (s : St) (C : Nat → Prop) (r key : Int) (L : List It) (hL : IsT s.1 r L) (hr : U64 r) (w : World) (hF : Ft C (Fo bf s C) w) :
    FC Try.prog 24 [.pointer (some ⟨bf, 0, none⟩), .int .u64 r, .int .i64 key] w (fun v w' => Sub w w' ∧ FindP L key v) := by
  refine FC.intro Try.func24 rfl Try.ntmps24 rfl ?_
  have S := Sub.refl w
  refine RC.seq ?_
  refine RC.region rfl ?_
  refine RL.ev (.assign rfl) rfl rfl ?_
  refine RL.ev (.assign rfl) rfl rfl ?_
  refine RL.nil (RC.back ?_)
  refine RC.seq ?_
  refine RC.block ?_
  refine RC.loop (α := Int × List It) (fun x => [(0, .pointer (some ⟨bf, 0, none⟩)), (1, .int .u64 x.1), (2, .int .i64 key)]) (fun x w1 => (U64 x.1 ∧ IsT s.1 x.1 x.2 ∧ (∀ y ∈ x.2, y ∈ L) ∧ ((∃ y ∈ L, y.k = key) ↔ ∃ y ∈ x.2, y.k = key)) ∧ Sub w w1) (fun x => x.2.length) (r, L) (keep_of (by repeat (first | exact trivial | refine And.intro rfl ?_))) (⟨⟨hr, hL, fun _ h => h, Iff.rfl⟩, S⟩) (fun x w1 hJ => ?_)
  obtain ⟨r, K⟩ := x; obtain ⟨⟨hr, hK, hKL, hKi⟩, S⟩ := hJ; simp only [] at hr hK hKL hKi
  refine RC.seq ?_
  refine RC.seq ?_
  refine RC.region rfl ?_
  refine RL.ev (.move rfl) rfl rfl ?_
  refine RL.ev (.bin rfl rfl rfl) rfl rfl ?_
  refine RL.nil (RC.back ?_)
  refine RC.cond_dec rfl (fun h2 => ?_) (fun h2 => ?_)
  ·
    have hr0 : ¬ r = 0 := h2
    obtain ⟨g, a1, b1, it, L1, R1, hKe, e1, e2, e3, e4, e5⟩ := hK.ne hr0
    obtain ⟨x, hx, hxi, hxa, hxb⟩ : ∃ x, getA s.1 r = some x ∧ (⟨x.n, x.v⟩ : It) = it ∧ x.k0 = a1 ∧ x.k1 = b1 := ⟨_, e1, rfl, rfl, rfl⟩
    have hgx := getN_yes hx
    have hxo := hF.now.nok x (getA_nok hx)
    rw [← hxi] at hKe e5
    rw [← hxa] at e2
    rw [← hxb] at e3
    have hlen : K.length = L1.length + (R1.length + 1) := (by rw [hKe]; simp)
    refine RC.skip (RC.back ?_)
    refine RC.block ?_
    refine RC.seq ?_
    refine RC.region rfl ?_
    refine RL.ev (.move rfl) rfl rfl ?_
    refine RL.ev (.move rfl) rfl rfl ?_
    refine RL.call rfl ok25 ((hgx ▸ c_fget bf s C r hr w1 (hF.sub S))) rfl rfl ?_
    rintro _ w3 ⟨rfl, s4⟩
    have S := S.trans s4
    refine RL.alloc ze69 rfl rfl (fun b_8 w_8 e_8 z_8 hb_8 s_8 => ?_)
    have ge_8 := S.le e_8
    have S := S.trans s_8
    refine RL.store sh69 rfl rfl rfl hb_8 (by exact Nat.le_of_ble_eq_true rfl) (by rfl) rfl (fun w5 z5 hb_8 a5 => ?_)
    have S := S.upd a5 ge_8
    have hb_8 : Has w5 b_8 (x.cells) _ := hb_8.now (by kernel_rfl)
    refine RL.nil (RC.back ?_)
    refine RC.block ?_
    refine RC.seq ?_
    refine RC.region rfl ?_
    refine RL.ev (.field0 fo69_2 rfl) rfl rfl ?_
    refine RL.ev (.load1 sh2 rfl (hb_8.cell rfl)) rfl rfl ?_
    refine RL.ev (.move rfl) rfl rfl ?_
    refine RL.ev (.bin rfl rfl rfl) rfl rfl ?_
    refine RL.ev (.assign rfl) rfl rfl ?_
    refine RL.nil (RC.back ?_)
    refine RC.cond_dec rfl (fun h6 => ?_) (fun h6 => ?_)
    ·
      have q := h6
      refine RC.seq ?_
      refine RC.region rfl ?_
      refine RL.ev (.field0 fo69_3 rfl) rfl rfl ?_
      refine RL.ev (.load1 sh2 rfl (hb_8.cell rfl)) rfl rfl ?_
      refine RL.ev (.assign rfl) rfl rfl ?_
      refine RL.ev (.assign rfl) rfl rfl ?_
      refine RL.nil (RC.back ?_)
      refine RC.done (rs := [.tmp 6, .tmp 7]) (vs := [_, _]) rfl rfl ⟨rfl, rfl, trivial⟩ ?_
      -- end 1
      exact ⟨S, .inl ⟨⟨x.n, x.v⟩, hKL _ (by rw [hKe]; simp), q, rfl⟩⟩
    ·
      have q := h6
      refine RC.seq ?_
      refine RC.region rfl ?_
      refine RL.ev (.move rfl) rfl rfl ?_
      refine RL.ev (.field0 fo69_2 rfl) rfl rfl ?_
      refine RL.ev (.load1 sh2 rfl (hb_8.cell rfl)) rfl rfl ?_
      refine RL.ev (.bin rfl rfl rfl) rfl rfl ?_
      refine RL.ev (.assign rfl) rfl rfl ?_
      refine RL.nil (RC.back ?_)
      refine RC.cond_dec rfl (fun h7 => ?_) (fun h7 => ?_)
      ·
        have q2 := h7
        refine RC.region rfl ?_
        refine RL.ev (.field0 fo69_5 rfl) rfl rfl ?_
        refine RL.ev (.indexArr ar67 rfl rfl (by omega)) rfl rfl ?_
        refine RL.ev (.load1 sh30 rfl (hb_8.cell rfl)) rfl rfl ?_
        refine RL.ev (.assign rfl) rfl rfl ?_
        exact RL.nil (fun a ka => ⟨(x.k0, L1), ⟨⟨hxo.kids _ (by simp [Node.kids]), e2, fun y hy => hKL y (by rw [hKe]; exact List.mem_append_left _ hy), hKi.trans (by rw [hKe]; exact find_lt e5 q2)⟩, S⟩, by simp only []; omega, ka.keep (keep_of (by repeat (first | exact trivial | refine And.intro rfl ?_)))⟩)
      ·
        have q2 := h7
        refine RC.region rfl ?_
        refine RL.ev (.field0 fo69_5 rfl) rfl rfl ?_
        refine RL.ev (.indexArr ar67 rfl rfl (by omega)) rfl rfl ?_
        refine RL.ev (.load1 sh30 rfl (hb_8.cell rfl)) rfl rfl ?_
        refine RL.ev (.assign rfl) rfl rfl ?_
        exact RL.nil (fun a ka => ⟨(x.k1, R1), ⟨⟨hxo.kids _ (by simp [Node.kids]), e3, fun y hy => hKL y (by rw [hKe]; exact List.mem_append_right _ (List.mem_cons_of_mem _ hy)), hKi.trans (by rw [hKe]; exact find_gt e5 (show x.n < key by omega))⟩, S⟩, by simp only []; omega, ka.keep (keep_of (by repeat (first | exact trivial | refine And.intro rfl ?_)))⟩)
  ·
    have hr0 : r = 0 := Decidable.not_not.1 h2
    rw [hr0] at hK
    have hK0 := hK.zero
    refine RC.exit rfl (RC.back ?_)
    refine RC.seq ?_
    refine RC.region rfl ?_
    refine RL.ev (.assign rfl) rfl rfl ?_
    refine RL.ev (.assign rfl) rfl rfl ?_
    refine RL.nil (RC.back ?_)
    refine RC.done (rs := [.tmp 6, .tmp 7]) (vs := [_, _]) rfl rfl ⟨rfl, rfl, trivial⟩ ?_
    -- end 2
    exact ⟨S, .inr ⟨fun y hy e => (by obtain ⟨z, hz, _⟩ := hKi.1 ⟨y, hy, e⟩; rw [hK0] at hz; cases hz), rfl⟩⟩
set_option maxHeartbeats 1000000 in
theorem c_fput (bf : Nat) (key v : Int) (hkey : I64 key) (hv : I64 v) (A0 : Ar) (r : Int) (L : List It) (hL : IsT A0 r L) : ∀ (s : St) (C : Nat → Prop) (w : World), Ext A0 s.1 → AOk s.1 → U64 r → L.length ≤ 1000 → Ft C (Fo bf s C) w →
    FC Try.prog 26 [.pointer (some ⟨bf, 0, none⟩), .int .u64 r, .int .i64 key, .int .i64 v] w (FoP bf (L.length + 1) s C w fun s' u => ∃ r', u = .int .u64 r' ∧ U64 r' ∧ (s'.2 = 0 → IsT s'.1 r' (putL L key v))) := by
  induction hL with
  | nil =>
    intro s C w hE hA hr hl hF
    have hCb := hF.now.1
    refine FC.intro Try.func26 rfl Try.ntmps26 rfl ?_
    have G : Agr (· = bf) w w := Agr.refl _ _
    refine RC.seq ?_
    refine RC.region rfl ?_
    refine RL.ev (.assign rfl) rfl rfl ?_
    refine RL.nil (RC.back ?_)
    refine RC.seq ?_
    refine RC.region rfl ?_
    refine RL.ev (.move rfl) rfl rfl ?_
    refine RL.ev (.move rfl) rfl rfl ?_
    refine RL.call rfl ok25 (c_fget bf s C 0 hr w hF) rfl rfl ?_
    rintro _ w1 ⟨rfl, s2⟩
    have G := G.trans s2.agr
    have hF := hF.sub s2
    refine RL.alloc ze69 rfl rfl (fun b_9 w_9 e_9 z_9 hb_9 s_9 => ?_)
    have d_hF_b_9 := hF.neNew e_9
    have geG_9 := agLe G e_9
    have G := G.trans s_9.agr
    have hF := hF.sub s_9
    have n9f : b_9 ≠ bf := fun e => d_hF_b_9 bf hCb e.symm
    refine RL.store sh69 rfl rfl rfl hb_9 (by exact Nat.le_of_ble_eq_true rfl) (by rfl) rfl (fun w3 z3 hb_9 a3 => ?_)
    have G := agNew G a3 geG_9
    have hF := hF.updD a3 d_hF_b_9
    have hb_9 : Has w3 b_9 ((getN s.1 0).cells) _ := hb_9.now (by kernel_rfl)
    refine RL.nil (RC.back ?_)
    refine RC.seq ?_
    refine RC.block ?_
    refine RC.seq ?_
    refine RC.region rfl ?_
    refine RL.ev (.move rfl) rfl rfl ?_
    refine RL.ev (.bin rfl rfl rfl) rfl rfl ?_
    refine RL.ev (.assign rfl) rfl rfl ?_
    refine RL.nil (RC.back ?_)
    refine RC.cond_dec rfl (fun h4 => ?_) (fun h4 => ?_)
    ·
      refine RC.seq ?_
      refine RC.region rfl ?_
      refine RL.ev (.move rfl) rfl rfl ?_
      refine RL.ev (.move rfl) rfl rfl ?_
      refine RL.ev (.move rfl) rfl rfl ?_
      refine RL.call rfl ok35 (c_fmake bf s C key v 0 0 hkey hv u0 u0 w3 hF) rfl rfl ?_
      rintro _ w5 ⟨s1, r1, C1, rfl, hm, hF1, ag, up⟩
      have up := up.le G.size
      have G := G.trans ag
      have hb_9 := hb_9.upd ag n9f
      have hF := hF1
      refine RL.ev (.assign rfl) rfl rfl ?_
      refine RL.nil (RC.back ?_)
      refine RC.done (rs := [.tmp 8]) (vs := [_]) rfl rfl ⟨rfl, trivial⟩ ?_
      -- end 1
      obtain ⟨p1, p2⟩ := put_new hA hm
      exact ⟨s1, C1, p1.mono (by simp), ⟨r1, rfl, hm.u64, p2⟩, hF, G, up⟩
    ·
      exact absurd rfl h4
  | @node r g a b it L R t1 t2 t3 t4 t5 ih1 ih2 =>
    intro s C w hE hA hr hl hF
    obtain ⟨x, hx, hxi, hxa, hxb⟩ : ∃ x, getA A0 r = some x ∧ (⟨x.n, x.v⟩ : It) = it ∧ x.k0 = a ∧ x.k1 = b := ⟨_, t1, rfl, rfl, rfl⟩
    have hx := hE.get hx
    have hgx := getN_yes hx
    have hxo := hF.now.nok x (getA_nok hx)
    have hr0 : ¬ r = 0 := fun e => by rw [e, getA_0] at hx; cases hx
    have hCb := hF.now.1
    have hk0 : U64 x.k0 := hxo.kids _ (by simp [Node.kids])
    have hk1 : U64 x.k1 := hxo.kids _ (by simp [Node.kids])
    have hLt : IsT A0 r (L ++ it :: R) := .node t1 t2 t3 t4 t5
    clear t1
    have hl2 := hl
    rw [List.length_append, List.length_cons] at hl2
    subst hxi hxa hxb
    refine FC.intro Try.func26 rfl Try.ntmps26 rfl ?_
    have G : Agr (· = bf) w w := Agr.refl _ _
    refine RC.seq ?_
    refine RC.region rfl ?_
    refine RL.ev (.assign rfl) rfl rfl ?_
    refine RL.nil (RC.back ?_)
    refine RC.seq ?_
    refine RC.region rfl ?_
    refine RL.ev (.move rfl) rfl rfl ?_
    refine RL.ev (.move rfl) rfl rfl ?_
    refine RL.call rfl ok25 ((hgx ▸ c_fget bf s C r hr w hF)) rfl rfl ?_
    rintro _ w1 ⟨rfl, s2⟩
    have G := G.trans s2.agr
    have hF := hF.sub s2
    refine RL.alloc ze69 rfl rfl (fun b_9 w_9 e_9 z_9 hb_9 s_9 => ?_)
    have d_hF_b_9 := hF.neNew e_9
    have geG_9 := agLe G e_9
    have G := G.trans s_9.agr
    have hF := hF.sub s_9
    have n9f : b_9 ≠ bf := fun e => d_hF_b_9 bf hCb e.symm
    refine RL.store sh69 rfl rfl rfl hb_9 (by exact Nat.le_of_ble_eq_true rfl) (by rfl) rfl (fun w3 z3 hb_9 a3 => ?_)
    have G := agNew G a3 geG_9
    have hF := hF.updD a3 d_hF_b_9
    have hb_9 : Has w3 b_9 (x.cells) _ := hb_9.now (by kernel_rfl)
    refine RL.nil (RC.back ?_)
    refine RC.seq ?_
    refine RC.block ?_
    refine RC.seq ?_
    refine RC.region rfl ?_
    refine RL.ev (.move rfl) rfl rfl ?_
    refine RL.ev (.bin rfl rfl rfl) rfl rfl ?_
    refine RL.ev (.assign rfl) rfl rfl ?_
    refine RL.nil (RC.back ?_)
    refine RC.cond_dec rfl (fun h4 => ?_) (fun h4 => ?_)
    ·
      exact absurd h4 hr0
    ·
      refine RC.seq ?_
      refine RC.region rfl ?_
      refine RL.ev (.field0 fo69_2 rfl) rfl rfl ?_
      refine RL.ev (.load1 sh2 rfl (hb_9.cell rfl)) rfl rfl ?_
      refine RL.ev (.move rfl) rfl rfl ?_
      refine RL.ev (.bin rfl rfl rfl) rfl rfl ?_
      refine RL.ev (.assign rfl) rfl rfl ?_
      refine RL.nil (RC.back ?_)
      refine RC.cond_dec rfl (fun h5 => ?_) (fun h5 => ?_)
      ·
        have q : x.n = key := h5
        refine RC.seq ?_
        refine RC.region rfl ?_
        refine RL.ev (.move rfl) rfl rfl ?_
        refine RL.ev (.move rfl) rfl rfl ?_
        refine RL.ev (.move rfl) rfl rfl ?_
        refine RL.ev (.field0 fo69_5 rfl) rfl rfl ?_
        refine RL.ev (.indexArr ar67 rfl rfl (by omega)) rfl rfl ?_
        refine RL.ev (.load1 sh30 rfl (hb_9.cell rfl)) rfl rfl ?_
        refine RL.ev (.field0 fo69_5 rfl) rfl rfl ?_
        refine RL.ev (.indexArr ar67 rfl rfl (by omega)) rfl rfl ?_
        refine RL.ev (.load1 sh30 rfl (hb_9.cell rfl)) rfl rfl ?_
        refine RL.call rfl ok35 (c_fmake bf s C key v x.k0 x.k1 hkey hv hk0 hk1 w3 hF) rfl rfl ?_
        rintro _ w6 ⟨s1, r1, C1, rfl, hm, hF1, ag, up⟩
        have up := up.le G.size
        have G := G.trans ag
        have hb_9 := hb_9.upd ag n9f
        have hF := hF1
        refine RL.ev (.assign rfl) rfl rfl ?_
        refine RL.nil (RC.back ?_)
        refine RC.done (rs := [.tmp 8]) (vs := [_]) rfl rfl ⟨rfl, trivial⟩ ?_
        -- end 1
        obtain ⟨p1, p2⟩ := put_same (it := ⟨x.n, x.v⟩) hE hA t2 t3 t4 t5 q hl hm
        exact ⟨s1, C1, p1, ⟨r1, rfl, hm.u64, p2⟩, hF, G, up⟩
      ·
        have q : ¬ x.n = key := h5
        refine RC.seq ?_
        refine RC.region rfl ?_
        refine RL.ev (.move rfl) rfl rfl ?_
        refine RL.ev (.field0 fo69_2 rfl) rfl rfl ?_
        refine RL.ev (.load1 sh2 rfl (hb_9.cell rfl)) rfl rfl ?_
        refine RL.call rfl ok36 (c_before key x.n w3) rfl rfl ?_
        rintro _ w8 ⟨rfl, s9⟩
        have G := G.trans s9.agr
        have hF := hF.sub s9
        have hb_9 := hb_9.sub s9
        refine RL.ev (.assign rfl) rfl rfl ?_
        refine RL.nil (RC.back ?_)
        refine RC.cond rfl (fun h10 => ?_) (fun h10 => ?_)
        ·
          have q2 : beforeK key x.n = true := h10
          refine RC.seq ?_
          refine RC.region rfl ?_
          refine RL.ev (.move rfl) rfl rfl ?_
          refine RL.ev (.move rfl) rfl rfl ?_
          refine RL.ev (.move rfl) rfl rfl ?_
          refine RL.call rfl ok37 (c_fsplit bf key hkey A0 r _ hLt s C w8 hE hA hr hl hF) rfl rfl ?_
          rintro _ w11 ⟨s1, C1, hg, ⟨r1, r2, rfl, hu1, hu2, hi⟩, hF1, ag, up⟩
          have up := up.le G.size
          have G := G.trans ag
          have hb_9 := hb_9.upd ag n9f
          have hF := hF1
          refine RL.ev (.move rfl) rfl rfl ?_
          refine RL.ev (.extract rfl rfl) rfl rfl ?_
          refine RL.ev (.extract rfl rfl) rfl rfl ?_
          refine RL.ev (.assign rfl) rfl rfl ?_
          refine RL.ev (.assign rfl) rfl rfl ?_
          refine RL.nil (RC.back ?_)
          refine RC.seq ?_
          refine RC.region rfl ?_
          refine RL.ev (.move rfl) rfl rfl ?_
          refine RL.ev (.move rfl) rfl rfl ?_
          refine RL.ev (.move rfl) rfl rfl ?_
          refine RL.ev (.move rfl) rfl rfl ?_
          refine RL.ev (.move rfl) rfl rfl ?_
          refine RL.call rfl ok35 (c_fmake bf s1 C1 key v r1 r2 hkey hv hu1 hu2 w11 hF) rfl rfl ?_
          rintro _ w13 ⟨s2, r3, C2, rfl, hm, hF2, ag2, up2⟩
          have up2 := up.trans (up2.le G.size)
          have G := G.trans ag2
          have hb_9 := hb_9.upd ag2 n9f
          have hF := hF2
          refine RL.ev (.assign rfl) rfl rfl ?_
          refine RL.nil (RC.back ?_)
          refine RC.done (rs := [.tmp 8]) (vs := [_]) rfl rfl ⟨rfl, trivial⟩ ?_
          -- end 2
          obtain ⟨p1, p2⟩ := put_top (it := ⟨x.n, x.v⟩) t4 t5 q2 hl hg hi hm
          exact ⟨s2, C2, p1, ⟨r3, rfl, hm.u64, p2⟩, hF, G, up2⟩
        ·
          have q2 : ¬ beforeK key x.n = true := (by simpa using h10)
          refine RC.seq ?_
          refine RC.region rfl ?_
          refine RL.ev (.move rfl) rfl rfl ?_
          refine RL.ev (.field0 fo69_2 rfl) rfl rfl ?_
          refine RL.ev (.load1 sh2 rfl (hb_9.cell rfl)) rfl rfl ?_
          refine RL.ev (.bin rfl rfl rfl) rfl rfl ?_
          refine RL.ev (.assign rfl) rfl rfl ?_
          refine RL.nil (RC.back ?_)
          refine RC.cond_dec rfl (fun h15 => ?_) (fun h15 => ?_)
          ·
            have q3 : key < x.n := h15
            refine RC.seq ?_
            refine RC.drawD (fun k => k = bf) [11, 15] w8.heap.size 17 rfl rfl mxo (fun w16 s17 => ?_)
            have ltD_hF := fun k hk => (hF.ge k hk).2
            have ltD_b_9 := hb_9.lt
            have szD := Nat.le_refl w8.heap.size
            have G := G.trans s17.agr
            have hF := hF.sub s17
            have hb_9 := hb_9.sub s17
            have szD := Nat.le_trans szD s17.size
            refine RD.take 0 rfl (by kernel_rfl) (by kernel_rfl) (by kernel_rfl) (fun w' s' => .move rfl) rfl rfl ?_
            refine RD.take 1 rfl (by kernel_rfl) (by kernel_rfl) (by kernel_rfl) (fun w' s' => .field0 fo69_2 rfl) rfl rfl ?_
            refine RD.take 2 rfl (by kernel_rfl) (by kernel_rfl) (by kernel_rfl) (fun w' s' => .load1 sh2 rfl ((hb_9.step s' (fun e => e.elim (fun e => n9f e) (fun e => Nat.not_le.2 ltD_b_9 e))).cell rfl)) rfl rfl ?_
            refine RD.take 3 rfl (by kernel_rfl) (by kernel_rfl) (by kernel_rfl) (fun w' s' => .field0 fo69_3 rfl) rfl rfl ?_
            refine RD.take 4 rfl (by kernel_rfl) (by kernel_rfl) (by kernel_rfl) (fun w' s' => .load1 sh2 rfl ((hb_9.step s' (fun e => e.elim (fun e => n9f e) (fun e => Nat.not_le.2 ltD_b_9 e))).cell rfl)) rfl rfl ?_
            refine RD.take 5 rfl (by kernel_rfl) (by kernel_rfl) (by kernel_rfl) (fun w' s' => .move rfl) rfl rfl ?_
            refine RD.take 6 rfl (by kernel_rfl) (by kernel_rfl) (by kernel_rfl) (fun w' s' => .field0 fo69_5 rfl) rfl rfl ?_
            refine RD.take 7 rfl (by kernel_rfl) (by kernel_rfl) (by kernel_rfl) (fun w' s' => .indexArr ar67 rfl rfl (by omega)) rfl rfl ?_
            refine RD.take 8 rfl (by kernel_rfl) (by kernel_rfl) (by kernel_rfl) (fun w' s' => .load1 sh30 rfl ((hb_9.step s' (fun e => e.elim (fun e => n9f e) (fun e => Nat.not_le.2 ltD_b_9 e))).cell rfl)) rfl rfl ?_
            refine RD.take 9 rfl (by kernel_rfl) (by kernel_rfl) (by kernel_rfl) (fun w' s' => .move rfl) rfl rfl ?_
            refine RD.take 10 rfl (by kernel_rfl) (by kernel_rfl) (by kernel_rfl) (fun w' s' => .move rfl) rfl rfl ?_
            refine RD.take 12 rfl (by kernel_rfl) (by kernel_rfl) (by kernel_rfl) (fun w' s' => .field0 fo69_5 rfl) rfl rfl ?_
            refine RD.take 13 rfl (by kernel_rfl) (by kernel_rfl) (by kernel_rfl) (fun w' s' => .indexArr ar67 rfl rfl (by omega)) rfl rfl ?_
            refine RD.take 14 rfl (by kernel_rfl) (by kernel_rfl) (by kernel_rfl) (fun w' s' => .load1 sh30 rfl ((hb_9.step s' (fun e => e.elim (fun e => n9f e) (fun e => Nat.not_le.2 ltD_b_9 e))).cell rfl)) rfl rfl ?_
            refine RD.all [11] (by kernel_rfl) rfl (RDs.cons rfl ?_ (RDs.nil))
            refine RL.call rfl ok26 (ih1 s C w16 hE hA hk0 (by omega) hF) rfl rfl ?_
            rintro _ w18 ⟨s1, C1, hg, ⟨r1, rfl, hu1, hi⟩, hF1, ag, up⟩
            have up := up.le G.size
            have G := G.trans ag
            have hb_9 := hb_9.upd ag n9f
            have szD := Nat.le_trans szD ag.size
            have hF := hF1
            refine RD.backW rfl (ag.mono fun k _ e => .inl e) ?_
            refine RD.all [15] (by kernel_rfl) rfl (RDs.cons rfl ?_ (RDs.nil))
            refine RL.call rfl ok35 (c_fmake bf s1 C1 x.n x.v r1 x.k1 hxo.n hxo.v hu1 hk1 w18 hF) rfl rfl ?_
            rintro _ w20 ⟨s2, r3, C2, rfl, hm, hF2, ag2, up2⟩
            have up2 := up.trans (up2.le G.size)
            have G := G.trans ag2
            have hb_9 := hb_9.upd ag2 n9f
            have szD := Nat.le_trans szD ag2.size
            have hF := hF2
            refine RD.backW rfl (ag2.mono fun k _ e => .inl e) ?_
            refine RD.take 16 rfl (by kernel_rfl) (by kernel_rfl) (by kernel_rfl) (fun w' s' => .assign rfl) rfl rfl ?_
            refine RD.done (by kernel_rfl) (RC.back ?_)
            refine RC.done (rs := [.tmp 8]) (vs := [_]) rfl rfl ⟨rfl, trivial⟩ ?_
            -- end 3
            obtain ⟨p1, p2⟩ := put_left (it := ⟨x.n, x.v⟩) hE t3 t4 t5 q2 q3 hl hg hi hm
            exact ⟨s2, C2, p1, ⟨r3, rfl, hm.u64, p2⟩, hF, G, up2⟩
          ·
            have q3 : x.n < key := (by have := h15; omega)
            refine RC.skip (RC.back ?_)
            refine RC.seq ?_
            refine RC.drawD (fun k => k = bf) [14, 15] w8.heap.size 17 rfl rfl mxo (fun w22 s23 => ?_)
            have ltD_hF := fun k hk => (hF.ge k hk).2
            have ltD_b_9 := hb_9.lt
            have szD := Nat.le_refl w8.heap.size
            have G := G.trans s23.agr
            have hF := hF.sub s23
            have hb_9 := hb_9.sub s23
            have szD := Nat.le_trans szD s23.size
            refine RD.take 0 rfl (by kernel_rfl) (by kernel_rfl) (by kernel_rfl) (fun w' s' => .move rfl) rfl rfl ?_
            refine RD.take 1 rfl (by kernel_rfl) (by kernel_rfl) (by kernel_rfl) (fun w' s' => .field0 fo69_2 rfl) rfl rfl ?_
            refine RD.take 2 rfl (by kernel_rfl) (by kernel_rfl) (by kernel_rfl) (fun w' s' => .load1 sh2 rfl ((hb_9.step s' (fun e => e.elim (fun e => n9f e) (fun e => Nat.not_le.2 ltD_b_9 e))).cell rfl)) rfl rfl ?_
            refine RD.take 3 rfl (by kernel_rfl) (by kernel_rfl) (by kernel_rfl) (fun w' s' => .field0 fo69_3 rfl) rfl rfl ?_
            refine RD.take 4 rfl (by kernel_rfl) (by kernel_rfl) (by kernel_rfl) (fun w' s' => .load1 sh2 rfl ((hb_9.step s' (fun e => e.elim (fun e => n9f e) (fun e => Nat.not_le.2 ltD_b_9 e))).cell rfl)) rfl rfl ?_
            refine RD.take 5 rfl (by kernel_rfl) (by kernel_rfl) (by kernel_rfl) (fun w' s' => .field0 fo69_5 rfl) rfl rfl ?_
            refine RD.take 6 rfl (by kernel_rfl) (by kernel_rfl) (by kernel_rfl) (fun w' s' => .indexArr ar67 rfl rfl (by omega)) rfl rfl ?_
            refine RD.take 7 rfl (by kernel_rfl) (by kernel_rfl) (by kernel_rfl) (fun w' s' => .load1 sh30 rfl ((hb_9.step s' (fun e => e.elim (fun e => n9f e) (fun e => Nat.not_le.2 ltD_b_9 e))).cell rfl)) rfl rfl ?_
            refine RD.take 8 rfl (by kernel_rfl) (by kernel_rfl) (by kernel_rfl) (fun w' s' => .move rfl) rfl rfl ?_
            refine RD.take 9 rfl (by kernel_rfl) (by kernel_rfl) (by kernel_rfl) (fun w' s' => .field0 fo69_5 rfl) rfl rfl ?_
            refine RD.take 10 rfl (by kernel_rfl) (by kernel_rfl) (by kernel_rfl) (fun w' s' => .indexArr ar67 rfl rfl (by omega)) rfl rfl ?_
            refine RD.take 11 rfl (by kernel_rfl) (by kernel_rfl) (by kernel_rfl) (fun w' s' => .load1 sh30 rfl ((hb_9.step s' (fun e => e.elim (fun e => n9f e) (fun e => Nat.not_le.2 ltD_b_9 e))).cell rfl)) rfl rfl ?_
            refine RD.take 12 rfl (by kernel_rfl) (by kernel_rfl) (by kernel_rfl) (fun w' s' => .move rfl) rfl rfl ?_
            refine RD.take 13 rfl (by kernel_rfl) (by kernel_rfl) (by kernel_rfl) (fun w' s' => .move rfl) rfl rfl ?_
            refine RD.all [14] (by kernel_rfl) rfl (RDs.cons rfl ?_ (RDs.nil))
            refine RL.call rfl ok26 (ih2 s C w22 hE hA hk1 (by omega) hF) rfl rfl ?_
            rintro _ w24 ⟨s1, C1, hg, ⟨r1, rfl, hu1, hi⟩, hF1, ag, up⟩
            have up := up.le G.size
            have G := G.trans ag
            have hb_9 := hb_9.upd ag n9f
            have szD := Nat.le_trans szD ag.size
            have hF := hF1
            refine RD.backW rfl (ag.mono fun k _ e => .inl e) ?_
            refine RD.all [15] (by kernel_rfl) rfl (RDs.cons rfl ?_ (RDs.nil))
            refine RL.call rfl ok35 (c_fmake bf s1 C1 x.n x.v x.k0 r1 hxo.n hxo.v hk0 hu1 w24 hF) rfl rfl ?_
            rintro _ w26 ⟨s2, r3, C2, rfl, hm, hF2, ag2, up2⟩
            have up2 := up.trans (up2.le G.size)
            have G := G.trans ag2
            have hb_9 := hb_9.upd ag2 n9f
            have szD := Nat.le_trans szD ag2.size
            have hF := hF2
            refine RD.backW rfl (ag2.mono fun k _ e => .inl e) ?_
            refine RD.take 16 rfl (by kernel_rfl) (by kernel_rfl) (by kernel_rfl) (fun w' s' => .assign rfl) rfl rfl ?_
            refine RD.done (by kernel_rfl) (RC.back ?_)
            refine RC.done (rs := [.tmp 8]) (vs := [_]) rfl rfl ⟨rfl, trivial⟩ ?_
            -- end 4
            obtain ⟨p1, p2⟩ := put_right (it := ⟨x.n, x.v⟩) hE t2 t4 t5 q2 q3 hl hg hi hm
            exact ⟨s2, C2, p1, ⟨r3, rfl, hm.u64, p2⟩, hF, G, up2⟩
end Go.Proofs.Ytdmaogopibljoaa
