/-
  What the law HistoryModel leans on, part 4.
-/
import Derived.Test.YtlhnnleaiinjaaaPHistoryModel3
set_option linter.unusedVariables false
set_option linter.unusedSimpArgs false
namespace Go.Proofs.Ytlhnnleaiinjaaa
open Go Go.XL
theorem c_refPairs (l : List It) (a : Option Addr) (c m : Nat) (hm : m = l.length) (hs : Srt l) (hl200 : l.length ≤ 200) (hc : l.length ≤ c) (o : OpT) (hok : okP o) (w : World) (M : Nat → Prop) (hF : Ft M (fun u => Sl u a 2 (l.map It.cells)) w) :
    FC Try.prog 31 [.slice a m c, .agg o.cells.toArray] w (fun u w' => AnsR M w w' (pairsM l o) u) := by
  subst hm
  have hl := hF.now
  have hk := hok.1
  obtain ⟨n, hn⟩ : ∃ n, n = (ltL o.a l).length := ⟨_, rfl⟩
  obtain ⟨g0, g1, g2, g3⟩ := part_has hs hn
  obtain ⟨is, his⟩ : ∃ b, b = hasK l o.a := ⟨_, rfl⟩
  rw [← his] at g0
  have hdef : pairsM l o = if o.kind = 6 then (l, ⟨0, l.length, 0⟩)
    else if o.kind = 2 then
      if is = false ∧ (200 ≤ l.length ∨ o.box = 2 ∧ 9 ≤ crowdL l o.a) then (l, ⟨5, 0, 0⟩)
      else (putL l o.a o.b, if is then ⟨0, 1, (valAt l n).v⟩ else ⟨0, 0, 0⟩)
    else if o.kind = 4 then
      if (if is then n + 1 else n) = 0 then (l, ⟨3, 0, 0⟩)
      else (l, ⟨0, (valAt l ((if is then n + 1 else n) - 1)).k, (valAt l ((if is then n + 1 else n) - 1)).v⟩)
    else if o.kind = 5 then (l, ⟨0, n, 0⟩)
    else if is = false then (l, ⟨3, 0, 0⟩)
    else (if o.kind = 3 then delL l o.a else l, ⟨0, (valAt l n).v, 0⟩) := by rw [hn, his]; rfl
  have hkk : 1 ≤ o.kind ∧ o.kind ≤ 6 := ⟨hk.2.2.1, hk.2.2.2.1⟩
  have hpl := putR_putL (key := o.a) (v := o.b) hs
  refine FC.intro Try.func31 rfl Try.ntmps31 rfl ?_
  have S := Sub.refl w
  refine RC.seq ?_
  refine RC.region rfl ?_
  refine RL.box rfl rfl rfl (fun b_3 w_3 e_3 z_3 hb_3 s_3 => ?_)
  have ge_3 := S.le e_3
  have S := S.trans s_3
  have hb_3 : Has w_3 b_3 ([.int .i64 o.box, .int .i64 o.kind, .int .i64 o.a, .int .i64 o.b]) _ := hb_3
  refine RL.alloc ze64 rfl rfl (fun b_4 w_4 e_4 z_4 hb_4 s_4 => ?_)
  have ge_4 := S.le e_4
  have n_3__4 := hb_3.ne e_4
  have S := S.trans s_4
  have hb_3 := hb_3.sub s_4
  refine RL.nil (RC.back ?_)
  refine RC.seq ?_
  refine RC.region rfl ?_
  refine RL.ev (.move rfl) rfl rfl ?_
  refine RL.ev (.field0 fo40_2 rfl) rfl rfl ?_
  refine RL.ev (.load1 sh2 rfl (hb_3.cell rfl)) rfl rfl ?_
  refine RL.call rfl ok40 (c_refAt6 l a c _ rfl o.a w_4 (hl.sub S) (by omega)) rfl rfl ?_
  rintro _ w1 ⟨s2, at_, rfl, hat⟩
  have S := S.trans s2
  have hb_3 := hb_3.sub s2
  have hb_4 := hb_4.sub s2
  have hat2 : (at_ < 0 ∧ is = false) ∨ (at_ = (n : Int) ∧ is = true ∧ ∃ x, l[n]? = some x ∧ x.k = o.a) := (by rcases hat with ⟨q1, q2⟩ | ⟨q1, q2, y, q3, q4⟩; exact .inl ⟨q1, by rw [his]; exact q2⟩; have q5 : is = true := (by rw [his]; exact q2); obtain ⟨x, x1, x2⟩ := g0.1 q5; refine .inr ⟨?_, q5, x, x1, x2⟩; rcases Nat.lt_trichotomy n at_.toNat with q | q | q; (have := srt_get hs q x1 q3; omega); omega; (have := srt_get hs q q3 x1; omega))
  refine RL.ev (.assign rfl) rfl rfl ?_
  refine RL.nil (RC.back ?_)
  refine RC.seq ?_
  refine RC.region rfl ?_
  refine RL.ev (.move rfl) rfl rfl ?_
  refine RL.ev (.field0 fo40_2 rfl) rfl rfl ?_
  refine RL.ev (.load1 sh2 rfl (hb_3.cell rfl)) rfl rfl ?_
  refine RL.call rfl ok41 (c_refBelow l a c _ rfl o.a w1 (hl.sub S) (by omega)) rfl rfl ?_
  rintro _ w3 ⟨a16, c16, rfl, _, s4⟩
  have S := S.trans s4
  have hb_3 := hb_3.sub s4
  have hb_4 := hb_4.sub s4
  refine RL.ev (.as (v' := .int .i64 (n : Int)) (.len sl35 rfl) (by rw [List.length_map, hn]; rfl)) rfl rfl ?_
  refine RL.ev (.assign rfl) rfl rfl ?_
  refine RL.nil (RC.back ?_)
  refine RC.seq ?_
  refine RC.seq ?_
  refine RC.region rfl ?_
  refine RL.ev (.field0 fo40_1 rfl) rfl rfl ?_
  refine RL.ev (.load1 sh3 rfl (hb_3.cell rfl)) rfl rfl ?_
  refine RL.nil (RC.back ?_)
  refine RC.block ?_
  refine RC.seq ?_
  refine RC.region rfl ?_
  refine RL.ev (.bin rfl rfl rfl) rfl rfl ?_
  refine RL.ev (.assign rfl) rfl rfl ?_
  refine RL.nil (RC.back ?_)
  refine RC.cond_dec rfl (fun h5 => ?_) (fun h5 => ?_)
  ·
    have k6 := h5
    refine RC.seq ?_
    refine RC.region rfl ?_
    refine RL.ev (.move rfl) rfl rfl ?_
    refine RL.ev (.move rfl) rfl rfl ?_
    refine RL.ev (.len sl35 rfl) rfl rfl ?_
    refine RL.ev (.as (v' := .agg #[.int .i64 0, .int .i64 (l.length : Int), .int .i64 0]) (.buildS ze43 pl43 rfl rfl) (by kernel_rfl)) rfl rfl ?_
    refine RL.ev (.as (v' := .agg #[.slice a l.length c, .int .i64 0, .int .i64 (l.length : Int), .int .i64 0]) (.buildS ze64 pl64 rfl rfl) (by kernel_rfl)) rfl rfl ?_
    refine RL.store sh64 rfl rfl rfl hb_4 (by exact Nat.le_of_ble_eq_true rfl) (by rfl) rfl (fun w6 z6 hb_4 a6 => ?_)
    have S := S.upd a6 ge_4
    have hb_3 := hb_3.upd a6 n_3__4
    have hb_4 : Has w6 b_4 ([.slice a l.length c, .int .i64 0, .int .i64 (l.length : Int), .int .i64 0]) _ := hb_4.now (by kernel_rfl)
    refine RL.nil (RC.back ?_)
    refine RC.done (rs := [.cell 4 64]) (vs := [_]) rfl rfl ⟨⟨_, rfl, .inr ⟨[.slice a l.length c, .int .i64 0, .int .i64 (l.length : Int), .int .i64 0], sh64, hb_4.row, rfl⟩⟩, trivial⟩ ?_
    -- end 1
    have he : pairsM l o = (l, ⟨0, l.length, 0⟩) := (by rw [hdef, if_pos k6])
    rw [he]
    exact ⟨S, _, _, M, rfl, hc, hF.sub S, Up.refl _ _⟩
  ·
    have n6 := h5
    refine RC.seq ?_
    refine RC.region rfl ?_
    refine RL.ev (.bin rfl rfl rfl) rfl rfl ?_
    refine RL.ev (.assign rfl) rfl rfl ?_
    refine RL.nil (RC.back ?_)
    refine RC.cond_dec rfl (fun h7 => ?_) (fun h7 => ?_)
    ·
      have k2 := h7
      refine RC.seq ?_
      refine RC.seq ?_
      refine RC.region rfl ?_
      refine RL.ev (.move rfl) rfl rfl ?_
      refine RL.ev (.bin rfl rfl rfl) rfl rfl ?_
      refine RL.ev (.move rfl) rfl rfl ?_
      refine RL.split 31 rfl (fun h8 => ?_) (fun h8 => ?_)
      ·
        have q31 : at_ < 0 := h8
        have is0 : is = false := (hat2.resolve_right (fun q => by omega)).2
        refine RL.ev (.move rfl) rfl rfl ?_
        refine RL.ev (.len sl35 rfl) rfl rfl ?_
        refine RL.ev (.bin rfl rfl rfl) rfl rfl ?_
        refine RL.ev (.move rfl) rfl rfl ?_
        refine RL.split 35 rfl (fun h9 => ?_) (fun h9 => ?_)
        ·
          have g69 : 200 ≤ l.length := (by omega)
          refine RL.off rfl rfl ?_
          refine RL.off rfl rfl ?_
          refine RL.off rfl rfl ?_
          refine RL.off rfl rfl ?_
          refine RL.off rfl rfl ?_
          refine RL.off rfl rfl ?_
          refine RL.off rfl rfl ?_
          refine RL.off rfl rfl ?_
          refine RL.off rfl rfl ?_
          refine RL.off rfl rfl ?_
          refine RL.ev (.pick_t rfl rfl) rfl rfl ?_
          refine RL.ev (.pick_t rfl rfl) rfl rfl ?_
          refine RL.nil (RC.back ?_)
          refine RC.cond_t rfl ?_
          refine RC.seq ?_
          refine RC.region rfl ?_
          refine RL.ev (.move rfl) rfl rfl ?_
          refine RL.ev (.as (v' := .agg #[.int .i64 5, .int .i64 0, .int .i64 0]) (.buildS ze43 pl43 rfl rfl) (by kernel_rfl)) rfl rfl ?_
          refine RL.ev (.as (v' := .agg #[.slice a l.length c, .int .i64 5, .int .i64 0, .int .i64 0]) (.buildS ze64 pl64 rfl rfl) (by kernel_rfl)) rfl rfl ?_
          refine RL.store sh64 rfl rfl rfl hb_4 (by exact Nat.le_of_ble_eq_true rfl) (by rfl) rfl (fun w10 z10 hb_4 a10 => ?_)
          have S := S.upd a10 ge_4
          have hb_3 := hb_3.upd a10 n_3__4
          have hb_4 : Has w10 b_4 ([.slice a l.length c, .int .i64 5, .int .i64 0, .int .i64 0]) _ := hb_4.now (by kernel_rfl)
          refine RL.nil (RC.back ?_)
          refine RC.done (rs := [.cell 4 64]) (vs := [_]) rfl rfl ⟨⟨_, rfl, .inr ⟨[.slice a l.length c, .int .i64 5, .int .i64 0, .int .i64 0], sh64, hb_4.row, rfl⟩⟩, trivial⟩ ?_
          -- end 2
          have he : pairsM l o = (l, ⟨5, 0, 0⟩) := (by rw [hdef, if_neg n6, if_pos k2, if_pos ⟨is0, .inl g69⟩])
          rw [he]
          exact ⟨S, _, _, M, rfl, hc, hF.sub S, Up.refl _ _⟩
        ·
          have g69 : ¬ 200 ≤ l.length := (by omega)
          refine RL.ev (.field0 fo40_0 rfl) rfl rfl ?_
          refine RL.ev (.load1 sh3 rfl (hb_3.cell rfl)) rfl rfl ?_
          refine RL.ev (.bin rfl rfl rfl) rfl rfl ?_
          refine RL.ev (.move rfl) rfl rfl ?_
          refine RL.split 39 rfl (fun h11 => ?_) (fun h11 => ?_)
          ·
            have g73 : o.box = 2 := h11
            refine RL.ev (.move rfl) rfl rfl ?_
            refine RL.ev (.field0 fo40_2 rfl) rfl rfl ?_
            refine RL.ev (.load1 sh2 rfl (hb_3.cell rfl)) rfl rfl ?_
            refine RL.call rfl ok42 (c_refCrowd l a c _ rfl o.a w3 (hl.sub S) (by omega)) rfl rfl ?_
            rintro _ w12 ⟨rfl, s13⟩
            have S := S.trans s13
            have hb_3 := hb_3.sub s13
            have hb_4 := hb_4.sub s13
            refine RL.ev (.bin rfl rfl rfl) rfl rfl ?_
            refine RL.ev (.pick_t rfl rfl) rfl rfl ?_
            refine RL.ev (.pick_f rfl rfl) rfl rfl ?_
            refine RL.ev (.pick_t rfl rfl) rfl rfl ?_
            refine RL.nil (RC.back ?_)
            refine RC.cond_dec rfl (fun h14 => ?_) (fun h14 => ?_)
            ·
              have g80 : 9 ≤ crowdL l o.a := (by omega)
              refine RC.seq ?_
              refine RC.region rfl ?_
              refine RL.ev (.move rfl) rfl rfl ?_
              refine RL.ev (.as (v' := .agg #[.int .i64 5, .int .i64 0, .int .i64 0]) (.buildS ze43 pl43 rfl rfl) (by kernel_rfl)) rfl rfl ?_
              refine RL.ev (.as (v' := .agg #[.slice a l.length c, .int .i64 5, .int .i64 0, .int .i64 0]) (.buildS ze64 pl64 rfl rfl) (by kernel_rfl)) rfl rfl ?_
              refine RL.store sh64 rfl rfl rfl hb_4 (by exact Nat.le_of_ble_eq_true rfl) (by rfl) rfl (fun w15 z15 hb_4 a15 => ?_)
              have S := S.upd a15 ge_4
              have hb_3 := hb_3.upd a15 n_3__4
              have hb_4 : Has w15 b_4 ([.slice a l.length c, .int .i64 5, .int .i64 0, .int .i64 0]) _ := hb_4.now (by kernel_rfl)
              refine RL.nil (RC.back ?_)
              refine RC.done (rs := [.cell 4 64]) (vs := [_]) rfl rfl ⟨⟨_, rfl, .inr ⟨[.slice a l.length c, .int .i64 5, .int .i64 0, .int .i64 0], sh64, hb_4.row, rfl⟩⟩, trivial⟩ ?_
              -- end 3
              have he : pairsM l o = (l, ⟨5, 0, 0⟩) := (by rw [hdef, if_neg n6, if_pos k2, if_pos ⟨is0, .inr ⟨g73, g80⟩⟩])
              rw [he]
              exact ⟨S, _, _, M, rfl, hc, hF.sub S, Up.refl _ _⟩
            ·
              have g80 : ¬ 9 ≤ crowdL l o.a := (by omega)
              refine RC.skip (RC.back ?_)
              refine RC.seq ?_
              refine RC.region rfl ?_
              refine RL.ev (.as (v' := .agg #[.int .i64 0, .int .i64 0, .int .i64 0]) (.buildS ze43 pl43 rfl rfl) (by kernel_rfl)) rfl rfl ?_
              refine RL.alloc ze43 rfl rfl (fun b_7 w_7 e_7 z_7 hb_7 s_7 => ?_)
              have ge_7 := S.le e_7
              have n_3__7 := hb_3.ne e_7
              have n_4__7 := hb_4.ne e_7
              have S := S.trans s_7
              have hb_3 := hb_3.sub s_7
              have hb_4 := hb_4.sub s_7
              refine RL.store sh43 rfl rfl rfl hb_7 (by exact Nat.le_of_ble_eq_true rfl) (by rfl) rfl (fun w16 z16 hb_7 a16 => ?_)
              have S := S.upd a16 ge_7
              have hb_3 := hb_3.upd a16 n_3__7
              have hb_4 := hb_4.upd a16 n_4__7
              have hb_7 : Has w16 b_7 ([.int .i64 0, .int .i64 0, .int .i64 0]) _ := hb_7.now (by kernel_rfl)
              refine RL.nil (RC.back ?_)
              refine RC.cutx (α := Int × Int) (fun y_ => [(0, .slice a l.length c), (3, .pointer (some ⟨b_3, 0, none⟩)), (4, .pointer (some ⟨b_4, 0, none⟩)), (7, .pointer (some ⟨b_7, 0, none⟩))]) (fun y_ w17 => ((y_.1 = if is then 1 else 0) ∧ y_.2 = if is then (valAt l n).v else 0) ∧ Has w17 b_3 o.cells 40 ∧ Has w17 b_4 [.slice none 0 0, .int .i64 0, .int .i64 0, .int .i64 0] 64 ∧ Has w17 b_7 [.int .i64 0, .int .i64 y_.1, .int .i64 y_.2] 43 ∧ Sub w w17) ?_ (fun y_ w17 hJ => ?_)
              ·
                refine RC.seq ?_
                refine RC.region rfl ?_
                refine RL.ev (.move rfl) rfl rfl ?_
                refine RL.ev (.bin rfl rfl rfl) rfl rfl ?_
                refine RL.nil (RC.back ?_)
                refine RC.cond_dec rfl (fun h18 => ?_) (fun h18 => ?_)
                ·
                  obtain ⟨hatn, is1, x, hx, hxk⟩ := hat2.resolve_left (fun q => by omega)
                  subst hatn
                  have hnl := lt_of_get hx
                  have hva := valAt_get hx
                  refine RC.region rfl ?_
                  refine RL.ev (.move rfl) rfl rfl ?_
                  refine RL.ev (.move rfl) rfl rfl ?_
                  refine RL.ev (.indexS sl35 rfl rfl (by omega) (hl.is (i := 0) (by simp only [List.length_map, List.length_cons, List.length_nil]; omega))) rfl rfl ?_
                  refine RL.ev (.fieldA fo82_1 rfl) rfl rfl ?_
                  refine RL.ev (.load1 sh2 rfl ((hl.sub S).cell (enc := It.cells) (j := 1) hx rfl)) rfl rfl ?_
                  refine RL.ev (.as (v' := .agg #[.int .i64 0, .int .i64 1, .int .i64 x.v]) (.buildS ze43 pl43 rfl rfl) (by kernel_rfl)) rfl rfl ?_
                  refine RL.store sh43 rfl rfl rfl hb_7 (by exact Nat.le_of_ble_eq_true rfl) (by rfl) rfl (fun w19 z19 hb_7 a19 => ?_)
                  have S := S.upd a19 ge_7
                  have hb_3 := hb_3.upd a19 n_3__7
                  have hb_4 := hb_4.upd a19 n_4__7
                  have hb_7 : Has w19 b_7 ([.int .i64 0, .int .i64 1, .int .i64 x.v]) _ := hb_7.now (by kernel_rfl)
                  exact RL.nil (fun a ka => ⟨(1, x.v), ⟨⟨by rw [if_pos is1], by rw [if_pos is1, hva]⟩, hb_3, hb_4, hb_7, S⟩, ka.keep (keep_of (by repeat (first | exact trivial | refine And.intro rfl ?_)))⟩)
                ·
                  have q53 := h18
                  have is0 : is = false := (hat2.resolve_right (fun q => by omega)).2
                  exact RC.skip (fun a ka => ⟨(0, 0), ⟨⟨by rw [is0]; rfl, by rw [is0]; rfl⟩, hb_3, hb_4, hb_7, S⟩, ka.keep (keep_of (by repeat (first | exact trivial | refine And.intro rfl ?_)))⟩)
              obtain ⟨ra, rb⟩ := y_
              obtain ⟨⟨hra, hrb⟩, hb_3, hb_4, hb_7, S⟩ := hJ
              simp only [] at hra hrb hb_7
              refine RC.seq ?_
              refine RC.drawD (fun k => k = b_4) [8] w17.heap.size 9 rfl rfl mxo (fun w20 s21 => ?_)
              have hNN : ∀ k, ((k = b_4) ∨ w17.heap.size ≤ k) → w.heap.size ≤ k := fun k e => e.elim (fun e => e ▸ ge_4) (fun e => Nat.le_trans S.size e)
              have ent_S := S.size
              have hN0 : ∀ k, w17.heap.size ≤ k → w.heap.size ≤ k := fun k e => Nat.le_trans S.size e
              have ltD_b_3 := hb_3.lt
              have ltD_b_4 := hb_4.lt
              have ltD_b_7 := hb_7.lt
              have szD := Nat.le_refl w17.heap.size
              have S := S.trans s21
              have hb_3 := hb_3.sub s21
              have hb_4 := hb_4.sub s21
              have hb_7 := hb_7.sub s21
              have szD := Nat.le_trans szD s21.size
              refine RD.take 0 rfl (by kernel_rfl) (by kernel_rfl) (by kernel_rfl) (fun w' s' => .move rfl) rfl rfl ?_
              refine RD.take 1 rfl (by kernel_rfl) (by kernel_rfl) (by kernel_rfl) (fun w' s' => .field0 fo40_2 rfl) rfl rfl ?_
              refine RD.take 2 rfl (by kernel_rfl) (by kernel_rfl) (by kernel_rfl) (fun w' s' => .load1 sh2 rfl ((hb_3.step s' (fun e => e.elim (fun e => n_3__4 e) (fun e => Nat.not_le.2 ltD_b_3 e))).cell rfl)) rfl rfl ?_
              refine RD.take 3 rfl (by kernel_rfl) (by kernel_rfl) (by kernel_rfl) (fun w' s' => .field0 fo40_3 rfl) rfl rfl ?_
              refine RD.take 4 rfl (by kernel_rfl) (by kernel_rfl) (by kernel_rfl) (fun w' s' => .load1 sh2 rfl ((hb_3.step s' (fun e => e.elim (fun e => n_3__4 e) (fun e => Nat.not_le.2 ltD_b_3 e))).cell rfl)) rfl rfl ?_
              refine RD.take 6 rfl (by kernel_rfl) (by kernel_rfl) (by kernel_rfl) (fun w' s' => .loadR ([.int .i64 0, .int .i64 ra, .int .i64 rb]) sh43 rfl (hb_7.step s' (fun e => e.elim (fun e => n_4__7.symm e) (fun e => Nat.not_le.2 ltD_b_7 e))).row rfl) rfl rfl ?_
              refine RD.all [5] (by kernel_rfl) rfl (RDs.cons rfl ?_ (RDs.nil))
              refine RL.call rfl ok43 (c_refPut l a c _ rfl o.a o.b w20 (hl.sub S) (by omega)) rfl rfl ?_
              rintro vr w22 ⟨a7, c7, hvr, o7, s23⟩
              rw [hpl] at hvr o7
              subst hvr
              have lt4 := hb_4.lt
              have lt3 := hb_3.lt
              have lt7 := hb_7.lt
              have szS7 := S.size
              have S := S.trans s23
              have hb_3 := hb_3.sub s23
              have hb_4 := hb_4.sub s23
              have hb_7 := hb_7.sub s23
              have szD := Nat.le_trans szD s23.size
              have d74 : ∀ k, ob (.slice a7 ((putL l o.a o.b).map It.cells).length c7) = some k → k ≠ b_4 := (fun k hk e => by have := (o7.ge k hk).1; omega)
              have d73 : ∀ k, ob (.slice a7 ((putL l o.a o.b).map It.cells).length c7) = some k → k ≠ b_3 := (fun k hk e => by have := (o7.ge k hk).1; omega)
              have d77 : ∀ k, ob (.slice a7 ((putL l o.a o.b).map It.cells).length c7) = some k → k ≠ b_7 := (fun k hk e => by have := (o7.ge k hk).1; omega)
              refine RD.back s23.agr ?_
              refine RD.take 7 rfl (by kernel_rfl) (by kernel_rfl) (by kernel_rfl) (fun w' s' => .as (v' := .agg #[.slice a7 ((putL l o.a o.b).map It.cells).length c7, .int .i64 0, .int .i64 ra, .int .i64 rb]) (.buildS ze64 pl64 rfl rfl) (by kernel_rfl)) rfl rfl ?_
              refine RD.all [8] (by kernel_rfl) rfl (RDs.cons rfl ?_ (RDs.nil))
              refine RL.store sh64 rfl rfl rfl hb_4 (by exact Nat.le_of_ble_eq_true rfl) (by rfl) rfl (fun w24 z24 hb_4 a24 => ?_)
              have S := S.upd a24 ge_4
              have hb_3 := hb_3.upd a24 n_3__4
              have hb_7 := hb_7.upd a24 n_4__7.symm
              have szD := Nat.le_trans szD a24.size
              have o7 := o7.updD a24 d74
              have hb_4 : Has w24 b_4 ([.slice a7 ((putL l o.a o.b).map It.cells).length c7, .int .i64 0, .int .i64 ra, .int .i64 rb]) _ := hb_4.now (by kernel_rfl)
              refine RD.backW rfl (a24.mono fun k _ e => e ▸ (.inl (rfl))) ?_
              refine RD.done (by kernel_rfl) (RC.back ?_)
              refine RC.done (rs := [.cell 4 64]) (vs := [_]) rfl rfl ⟨⟨_, rfl, .inr ⟨[.slice a7 ((putL l o.a o.b).map It.cells).length c7, .int .i64 0, .int .i64 ra, .int .i64 rb], sh64, hb_4.row, rfl⟩⟩, trivial⟩ ?_
              -- end 4
              have he : pairsM l o = (putL l o.a o.b, ⟨0, ra, rb⟩) := (by rw [hdef, if_neg n6, if_pos k2, if_neg (fun h => by omega), hra, hrb]; cases is <;> rfl)
              rw [he]
              have q := o7.form
              obtain ⟨_, c9, e9, k9⟩ := q
              cases e9
              rw [List.length_map] at k9
              exact ⟨S, _, _, _, by rw [List.length_map]; rfl, k9, o7.ft.imp (fun u h => h.sl.1), fun k hk => .inr (Nat.le_trans szS7 (o7.ge k hk).1)⟩
          ·
            have g73 : ¬ o.box = 2 := h11
            refine RL.off rfl rfl ?_
            refine RL.off rfl rfl ?_
            refine RL.off rfl rfl ?_
            refine RL.off rfl rfl ?_
            refine RL.off rfl rfl ?_
            refine RL.ev (.pick_f rfl rfl) rfl rfl ?_
            refine RL.ev (.pick_f rfl rfl) rfl rfl ?_
            refine RL.ev (.pick_t rfl rfl) rfl rfl ?_
            refine RL.nil (RC.back ?_)
            refine RC.cond_f rfl ?_
            refine RC.skip (RC.back ?_)
            refine RC.seq ?_
            refine RC.region rfl ?_
            refine RL.ev (.as (v' := .agg #[.int .i64 0, .int .i64 0, .int .i64 0]) (.buildS ze43 pl43 rfl rfl) (by kernel_rfl)) rfl rfl ?_
            refine RL.alloc ze43 rfl rfl (fun b_7 w_7 e_7 z_7 hb_7 s_7 => ?_)
            have ge_7 := S.le e_7
            have n_3__7 := hb_3.ne e_7
            have n_4__7 := hb_4.ne e_7
            have S := S.trans s_7
            have hb_3 := hb_3.sub s_7
            have hb_4 := hb_4.sub s_7
            refine RL.store sh43 rfl rfl rfl hb_7 (by exact Nat.le_of_ble_eq_true rfl) (by rfl) rfl (fun w25 z25 hb_7 a25 => ?_)
            have S := S.upd a25 ge_7
            have hb_3 := hb_3.upd a25 n_3__7
            have hb_4 := hb_4.upd a25 n_4__7
            have hb_7 : Has w25 b_7 ([.int .i64 0, .int .i64 0, .int .i64 0]) _ := hb_7.now (by kernel_rfl)
            refine RL.nil (RC.back ?_)
            refine RC.cutx (α := Int × Int) (fun y_ => [(0, .slice a l.length c), (3, .pointer (some ⟨b_3, 0, none⟩)), (4, .pointer (some ⟨b_4, 0, none⟩)), (7, .pointer (some ⟨b_7, 0, none⟩))]) (fun y_ w26 => ((y_.1 = if is then 1 else 0) ∧ y_.2 = if is then (valAt l n).v else 0) ∧ Has w26 b_3 o.cells 40 ∧ Has w26 b_4 [.slice none 0 0, .int .i64 0, .int .i64 0, .int .i64 0] 64 ∧ Has w26 b_7 [.int .i64 0, .int .i64 y_.1, .int .i64 y_.2] 43 ∧ Sub w w26) ?_ (fun y_ w26 hJ => ?_)
            ·
              refine RC.seq ?_
              refine RC.region rfl ?_
              refine RL.ev (.move rfl) rfl rfl ?_
              refine RL.ev (.bin rfl rfl rfl) rfl rfl ?_
              refine RL.nil (RC.back ?_)
              refine RC.cond_dec rfl (fun h27 => ?_) (fun h27 => ?_)
              ·
                obtain ⟨hatn, is1, x, hx, hxk⟩ := hat2.resolve_left (fun q => by omega)
                subst hatn
                have hnl := lt_of_get hx
                have hva := valAt_get hx
                refine RC.region rfl ?_
                refine RL.ev (.move rfl) rfl rfl ?_
                refine RL.ev (.move rfl) rfl rfl ?_
                refine RL.ev (.indexS sl35 rfl rfl (by omega) (hl.is (i := 0) (by simp only [List.length_map, List.length_cons, List.length_nil]; omega))) rfl rfl ?_
                refine RL.ev (.fieldA fo82_1 rfl) rfl rfl ?_
                refine RL.ev (.load1 sh2 rfl ((hl.sub S).cell (enc := It.cells) (j := 1) hx rfl)) rfl rfl ?_
                refine RL.ev (.as (v' := .agg #[.int .i64 0, .int .i64 1, .int .i64 x.v]) (.buildS ze43 pl43 rfl rfl) (by kernel_rfl)) rfl rfl ?_
                refine RL.store sh43 rfl rfl rfl hb_7 (by exact Nat.le_of_ble_eq_true rfl) (by rfl) rfl (fun w28 z28 hb_7 a28 => ?_)
                have S := S.upd a28 ge_7
                have hb_3 := hb_3.upd a28 n_3__7
                have hb_4 := hb_4.upd a28 n_4__7
                have hb_7 : Has w28 b_7 ([.int .i64 0, .int .i64 1, .int .i64 x.v]) _ := hb_7.now (by kernel_rfl)
                exact RL.nil (fun a ka => ⟨(1, x.v), ⟨⟨by rw [if_pos is1], by rw [if_pos is1, hva]⟩, hb_3, hb_4, hb_7, S⟩, ka.keep (keep_of (by repeat (first | exact trivial | refine And.intro rfl ?_)))⟩)
              ·
                have q53 := h27
                have is0 : is = false := (hat2.resolve_right (fun q => by omega)).2
                exact RC.skip (fun a ka => ⟨(0, 0), ⟨⟨by rw [is0]; rfl, by rw [is0]; rfl⟩, hb_3, hb_4, hb_7, S⟩, ka.keep (keep_of (by repeat (first | exact trivial | refine And.intro rfl ?_)))⟩)
            obtain ⟨ra, rb⟩ := y_
            obtain ⟨⟨hra, hrb⟩, hb_3, hb_4, hb_7, S⟩ := hJ
            simp only [] at hra hrb hb_7
            refine RC.seq ?_
            refine RC.drawD (fun k => k = b_4) [8] w26.heap.size 9 rfl rfl mxo (fun w29 s30 => ?_)
            have hNN : ∀ k, ((k = b_4) ∨ w26.heap.size ≤ k) → w.heap.size ≤ k := fun k e => e.elim (fun e => e ▸ ge_4) (fun e => Nat.le_trans S.size e)
            have ent_S := S.size
            have hN0 : ∀ k, w26.heap.size ≤ k → w.heap.size ≤ k := fun k e => Nat.le_trans S.size e
            have ltD_b_3 := hb_3.lt
            have ltD_b_4 := hb_4.lt
            have ltD_b_7 := hb_7.lt
            have szD := Nat.le_refl w26.heap.size
            have S := S.trans s30
            have hb_3 := hb_3.sub s30
            have hb_4 := hb_4.sub s30
            have hb_7 := hb_7.sub s30
            have szD := Nat.le_trans szD s30.size
            refine RD.take 0 rfl (by kernel_rfl) (by kernel_rfl) (by kernel_rfl) (fun w' s' => .move rfl) rfl rfl ?_
            refine RD.take 1 rfl (by kernel_rfl) (by kernel_rfl) (by kernel_rfl) (fun w' s' => .field0 fo40_2 rfl) rfl rfl ?_
            refine RD.take 2 rfl (by kernel_rfl) (by kernel_rfl) (by kernel_rfl) (fun w' s' => .load1 sh2 rfl ((hb_3.step s' (fun e => e.elim (fun e => n_3__4 e) (fun e => Nat.not_le.2 ltD_b_3 e))).cell rfl)) rfl rfl ?_
            refine RD.take 3 rfl (by kernel_rfl) (by kernel_rfl) (by kernel_rfl) (fun w' s' => .field0 fo40_3 rfl) rfl rfl ?_
            refine RD.take 4 rfl (by kernel_rfl) (by kernel_rfl) (by kernel_rfl) (fun w' s' => .load1 sh2 rfl ((hb_3.step s' (fun e => e.elim (fun e => n_3__4 e) (fun e => Nat.not_le.2 ltD_b_3 e))).cell rfl)) rfl rfl ?_
            refine RD.take 6 rfl (by kernel_rfl) (by kernel_rfl) (by kernel_rfl) (fun w' s' => .loadR ([.int .i64 0, .int .i64 ra, .int .i64 rb]) sh43 rfl (hb_7.step s' (fun e => e.elim (fun e => n_4__7.symm e) (fun e => Nat.not_le.2 ltD_b_7 e))).row rfl) rfl rfl ?_
            refine RD.all [5] (by kernel_rfl) rfl (RDs.cons rfl ?_ (RDs.nil))
            refine RL.call rfl ok43 (c_refPut l a c _ rfl o.a o.b w29 (hl.sub S) (by omega)) rfl rfl ?_
            rintro vr w31 ⟨a7, c7, hvr, o7, s32⟩
            rw [hpl] at hvr o7
            subst hvr
            have lt4 := hb_4.lt
            have lt3 := hb_3.lt
            have lt7 := hb_7.lt
            have szS7 := S.size
            have S := S.trans s32
            have hb_3 := hb_3.sub s32
            have hb_4 := hb_4.sub s32
            have hb_7 := hb_7.sub s32
            have szD := Nat.le_trans szD s32.size
            have d74 : ∀ k, ob (.slice a7 ((putL l o.a o.b).map It.cells).length c7) = some k → k ≠ b_4 := (fun k hk e => by have := (o7.ge k hk).1; omega)
            have d73 : ∀ k, ob (.slice a7 ((putL l o.a o.b).map It.cells).length c7) = some k → k ≠ b_3 := (fun k hk e => by have := (o7.ge k hk).1; omega)
            have d77 : ∀ k, ob (.slice a7 ((putL l o.a o.b).map It.cells).length c7) = some k → k ≠ b_7 := (fun k hk e => by have := (o7.ge k hk).1; omega)
            refine RD.back s32.agr ?_
            refine RD.take 7 rfl (by kernel_rfl) (by kernel_rfl) (by kernel_rfl) (fun w' s' => .as (v' := .agg #[.slice a7 ((putL l o.a o.b).map It.cells).length c7, .int .i64 0, .int .i64 ra, .int .i64 rb]) (.buildS ze64 pl64 rfl rfl) (by kernel_rfl)) rfl rfl ?_
            refine RD.all [8] (by kernel_rfl) rfl (RDs.cons rfl ?_ (RDs.nil))
            refine RL.store sh64 rfl rfl rfl hb_4 (by exact Nat.le_of_ble_eq_true rfl) (by rfl) rfl (fun w33 z33 hb_4 a33 => ?_)
            have S := S.upd a33 ge_4
            have hb_3 := hb_3.upd a33 n_3__4
            have hb_7 := hb_7.upd a33 n_4__7.symm
            have szD := Nat.le_trans szD a33.size
            have o7 := o7.updD a33 d74
            have hb_4 : Has w33 b_4 ([.slice a7 ((putL l o.a o.b).map It.cells).length c7, .int .i64 0, .int .i64 ra, .int .i64 rb]) _ := hb_4.now (by kernel_rfl)
            refine RD.backW rfl (a33.mono fun k _ e => e ▸ (.inl (rfl))) ?_
            refine RD.done (by kernel_rfl) (RC.back ?_)
            refine RC.done (rs := [.cell 4 64]) (vs := [_]) rfl rfl ⟨⟨_, rfl, .inr ⟨[.slice a7 ((putL l o.a o.b).map It.cells).length c7, .int .i64 0, .int .i64 ra, .int .i64 rb], sh64, hb_4.row, rfl⟩⟩, trivial⟩ ?_
            -- end 5
            have he : pairsM l o = (putL l o.a o.b, ⟨0, ra, rb⟩) := (by rw [hdef, if_neg n6, if_pos k2, if_neg (fun h => by omega), hra, hrb]; cases is <;> rfl)
            rw [he]
            have q := o7.form
            obtain ⟨_, c9, e9, k9⟩ := q
            cases e9
            rw [List.length_map] at k9
            exact ⟨S, _, _, _, by rw [List.length_map]; rfl, k9, o7.ft.imp (fun u h => h.sl.1), fun k hk => .inr (Nat.le_trans szS7 (o7.ge k hk).1)⟩
      ·
        have q31 : ¬ at_ < 0 := h8
        have is1 : is = true := (hat2.resolve_left (fun q => by omega)).2.1
        refine RL.off rfl rfl ?_
        refine RL.off rfl rfl ?_
        refine RL.off rfl rfl ?_
        refine RL.off rfl rfl ?_
        refine RL.off rfl rfl ?_
        refine RL.off rfl rfl ?_
        refine RL.off rfl rfl ?_
        refine RL.off rfl rfl ?_
        refine RL.off rfl rfl ?_
        refine RL.off rfl rfl ?_
        refine RL.off rfl rfl ?_
        refine RL.off rfl rfl ?_
        refine RL.off rfl rfl ?_
        refine RL.off rfl rfl ?_
        refine RL.off rfl rfl ?_
        refine RL.ev (.pick_f rfl rfl) rfl rfl ?_
        refine RL.nil (RC.back ?_)
        refine RC.cond_f rfl ?_
        refine RC.skip (RC.back ?_)
        refine RC.seq ?_
        refine RC.region rfl ?_
        refine RL.ev (.as (v' := .agg #[.int .i64 0, .int .i64 0, .int .i64 0]) (.buildS ze43 pl43 rfl rfl) (by kernel_rfl)) rfl rfl ?_
        refine RL.alloc ze43 rfl rfl (fun b_7 w_7 e_7 z_7 hb_7 s_7 => ?_)
        have ge_7 := S.le e_7
        have n_3__7 := hb_3.ne e_7
        have n_4__7 := hb_4.ne e_7
        have S := S.trans s_7
        have hb_3 := hb_3.sub s_7
        have hb_4 := hb_4.sub s_7
        refine RL.store sh43 rfl rfl rfl hb_7 (by exact Nat.le_of_ble_eq_true rfl) (by rfl) rfl (fun w34 z34 hb_7 a34 => ?_)
        have S := S.upd a34 ge_7
        have hb_3 := hb_3.upd a34 n_3__7
        have hb_4 := hb_4.upd a34 n_4__7
        have hb_7 : Has w34 b_7 ([.int .i64 0, .int .i64 0, .int .i64 0]) _ := hb_7.now (by kernel_rfl)
        refine RL.nil (RC.back ?_)
        refine RC.cutx (α := Int × Int) (fun y_ => [(0, .slice a l.length c), (3, .pointer (some ⟨b_3, 0, none⟩)), (4, .pointer (some ⟨b_4, 0, none⟩)), (7, .pointer (some ⟨b_7, 0, none⟩))]) (fun y_ w35 => ((y_.1 = if is then 1 else 0) ∧ y_.2 = if is then (valAt l n).v else 0) ∧ Has w35 b_3 o.cells 40 ∧ Has w35 b_4 [.slice none 0 0, .int .i64 0, .int .i64 0, .int .i64 0] 64 ∧ Has w35 b_7 [.int .i64 0, .int .i64 y_.1, .int .i64 y_.2] 43 ∧ Sub w w35) ?_ (fun y_ w35 hJ => ?_)
        ·
          refine RC.seq ?_
          refine RC.region rfl ?_
          refine RL.ev (.move rfl) rfl rfl ?_
          refine RL.ev (.bin rfl rfl rfl) rfl rfl ?_
          refine RL.nil (RC.back ?_)
          refine RC.cond_dec rfl (fun h36 => ?_) (fun h36 => ?_)
          ·
            obtain ⟨hatn, is1, x, hx, hxk⟩ := hat2.resolve_left (fun q => by omega)
            subst hatn
            have hnl := lt_of_get hx
            have hva := valAt_get hx
            refine RC.region rfl ?_
            refine RL.ev (.move rfl) rfl rfl ?_
            refine RL.ev (.move rfl) rfl rfl ?_
            refine RL.ev (.indexS sl35 rfl rfl (by omega) (hl.is (i := 0) (by simp only [List.length_map, List.length_cons, List.length_nil]; omega))) rfl rfl ?_
            refine RL.ev (.fieldA fo82_1 rfl) rfl rfl ?_
            refine RL.ev (.load1 sh2 rfl ((hl.sub S).cell (enc := It.cells) (j := 1) hx rfl)) rfl rfl ?_
            refine RL.ev (.as (v' := .agg #[.int .i64 0, .int .i64 1, .int .i64 x.v]) (.buildS ze43 pl43 rfl rfl) (by kernel_rfl)) rfl rfl ?_
            refine RL.store sh43 rfl rfl rfl hb_7 (by exact Nat.le_of_ble_eq_true rfl) (by rfl) rfl (fun w37 z37 hb_7 a37 => ?_)
            have S := S.upd a37 ge_7
            have hb_3 := hb_3.upd a37 n_3__7
            have hb_4 := hb_4.upd a37 n_4__7
            have hb_7 : Has w37 b_7 ([.int .i64 0, .int .i64 1, .int .i64 x.v]) _ := hb_7.now (by kernel_rfl)
            exact RL.nil (fun a ka => ⟨(1, x.v), ⟨⟨by rw [if_pos is1], by rw [if_pos is1, hva]⟩, hb_3, hb_4, hb_7, S⟩, ka.keep (keep_of (by repeat (first | exact trivial | refine And.intro rfl ?_)))⟩)
          ·
            have q53 := h36
            have is0 : is = false := (hat2.resolve_right (fun q => by omega)).2
            exact RC.skip (fun a ka => ⟨(0, 0), ⟨⟨by rw [is0]; rfl, by rw [is0]; rfl⟩, hb_3, hb_4, hb_7, S⟩, ka.keep (keep_of (by repeat (first | exact trivial | refine And.intro rfl ?_)))⟩)
        obtain ⟨ra, rb⟩ := y_
        obtain ⟨⟨hra, hrb⟩, hb_3, hb_4, hb_7, S⟩ := hJ
        simp only [] at hra hrb hb_7
        refine RC.seq ?_
        refine RC.drawD (fun k => k = b_4) [8] w35.heap.size 9 rfl rfl mxo (fun w38 s39 => ?_)
        have hNN : ∀ k, ((k = b_4) ∨ w35.heap.size ≤ k) → w.heap.size ≤ k := fun k e => e.elim (fun e => e ▸ ge_4) (fun e => Nat.le_trans S.size e)
        have ent_S := S.size
        have hN0 : ∀ k, w35.heap.size ≤ k → w.heap.size ≤ k := fun k e => Nat.le_trans S.size e
        have ltD_b_3 := hb_3.lt
        have ltD_b_4 := hb_4.lt
        have ltD_b_7 := hb_7.lt
        have szD := Nat.le_refl w35.heap.size
        have S := S.trans s39
        have hb_3 := hb_3.sub s39
        have hb_4 := hb_4.sub s39
        have hb_7 := hb_7.sub s39
        have szD := Nat.le_trans szD s39.size
        refine RD.take 0 rfl (by kernel_rfl) (by kernel_rfl) (by kernel_rfl) (fun w' s' => .move rfl) rfl rfl ?_
        refine RD.take 1 rfl (by kernel_rfl) (by kernel_rfl) (by kernel_rfl) (fun w' s' => .field0 fo40_2 rfl) rfl rfl ?_
        refine RD.take 2 rfl (by kernel_rfl) (by kernel_rfl) (by kernel_rfl) (fun w' s' => .load1 sh2 rfl ((hb_3.step s' (fun e => e.elim (fun e => n_3__4 e) (fun e => Nat.not_le.2 ltD_b_3 e))).cell rfl)) rfl rfl ?_
        refine RD.take 3 rfl (by kernel_rfl) (by kernel_rfl) (by kernel_rfl) (fun w' s' => .field0 fo40_3 rfl) rfl rfl ?_
        refine RD.take 4 rfl (by kernel_rfl) (by kernel_rfl) (by kernel_rfl) (fun w' s' => .load1 sh2 rfl ((hb_3.step s' (fun e => e.elim (fun e => n_3__4 e) (fun e => Nat.not_le.2 ltD_b_3 e))).cell rfl)) rfl rfl ?_
        refine RD.take 6 rfl (by kernel_rfl) (by kernel_rfl) (by kernel_rfl) (fun w' s' => .loadR ([.int .i64 0, .int .i64 ra, .int .i64 rb]) sh43 rfl (hb_7.step s' (fun e => e.elim (fun e => n_4__7.symm e) (fun e => Nat.not_le.2 ltD_b_7 e))).row rfl) rfl rfl ?_
        refine RD.all [5] (by kernel_rfl) rfl (RDs.cons rfl ?_ (RDs.nil))
        refine RL.call rfl ok43 (c_refPut l a c _ rfl o.a o.b w38 (hl.sub S) (by omega)) rfl rfl ?_
        rintro vr w40 ⟨a7, c7, hvr, o7, s41⟩
        rw [hpl] at hvr o7
        subst hvr
        have lt4 := hb_4.lt
        have lt3 := hb_3.lt
        have lt7 := hb_7.lt
        have szS7 := S.size
        have S := S.trans s41
        have hb_3 := hb_3.sub s41
        have hb_4 := hb_4.sub s41
        have hb_7 := hb_7.sub s41
        have szD := Nat.le_trans szD s41.size
        have d74 : ∀ k, ob (.slice a7 ((putL l o.a o.b).map It.cells).length c7) = some k → k ≠ b_4 := (fun k hk e => by have := (o7.ge k hk).1; omega)
        have d73 : ∀ k, ob (.slice a7 ((putL l o.a o.b).map It.cells).length c7) = some k → k ≠ b_3 := (fun k hk e => by have := (o7.ge k hk).1; omega)
        have d77 : ∀ k, ob (.slice a7 ((putL l o.a o.b).map It.cells).length c7) = some k → k ≠ b_7 := (fun k hk e => by have := (o7.ge k hk).1; omega)
        refine RD.back s41.agr ?_
        refine RD.take 7 rfl (by kernel_rfl) (by kernel_rfl) (by kernel_rfl) (fun w' s' => .as (v' := .agg #[.slice a7 ((putL l o.a o.b).map It.cells).length c7, .int .i64 0, .int .i64 ra, .int .i64 rb]) (.buildS ze64 pl64 rfl rfl) (by kernel_rfl)) rfl rfl ?_
        refine RD.all [8] (by kernel_rfl) rfl (RDs.cons rfl ?_ (RDs.nil))
        refine RL.store sh64 rfl rfl rfl hb_4 (by exact Nat.le_of_ble_eq_true rfl) (by rfl) rfl (fun w42 z42 hb_4 a42 => ?_)
        have S := S.upd a42 ge_4
        have hb_3 := hb_3.upd a42 n_3__4
        have hb_7 := hb_7.upd a42 n_4__7.symm
        have szD := Nat.le_trans szD a42.size
        have o7 := o7.updD a42 d74
        have hb_4 : Has w42 b_4 ([.slice a7 ((putL l o.a o.b).map It.cells).length c7, .int .i64 0, .int .i64 ra, .int .i64 rb]) _ := hb_4.now (by kernel_rfl)
        refine RD.backW rfl (a42.mono fun k _ e => e ▸ (.inl (rfl))) ?_
        refine RD.done (by kernel_rfl) (RC.back ?_)
        refine RC.done (rs := [.cell 4 64]) (vs := [_]) rfl rfl ⟨⟨_, rfl, .inr ⟨[.slice a7 ((putL l o.a o.b).map It.cells).length c7, .int .i64 0, .int .i64 ra, .int .i64 rb], sh64, hb_4.row, rfl⟩⟩, trivial⟩ ?_
        -- end 6
        have he : pairsM l o = (putL l o.a o.b, ⟨0, ra, rb⟩) := (by rw [hdef, if_neg n6, if_pos k2, if_neg (fun h => by rw [is1] at h; cases h.1), hra, hrb]; cases is <;> rfl)
        rw [he]
        have q := o7.form
        obtain ⟨_, c9, e9, k9⟩ := q
        cases e9
        rw [List.length_map] at k9
        exact ⟨S, _, _, _, by rw [List.length_map]; rfl, k9, o7.ft.imp (fun u h => h.sl.1), fun k hk => .inr (Nat.le_trans szS7 (o7.ge k hk).1)⟩
    ·
      have n2 := h7
      refine RC.seq ?_
      refine RC.region rfl ?_
      refine RL.ev (.bin rfl rfl rfl) rfl rfl ?_
      refine RL.ev (.assign rfl) rfl rfl ?_
      refine RL.nil (RC.back ?_)
      refine RC.cond_dec rfl (fun h43 => ?_) (fun h43 => ?_)
      ·
        have k4 := h43
        refine RC.cutx (α := Nat) (fun y_ => [(0, .slice a l.length c), (3, .pointer (some ⟨b_3, 0, none⟩)), (4, .pointer (some ⟨b_4, 0, none⟩)), (6, .int .i64 (y_ : Int))]) (fun y_ w44 => (y_ = (if is then n + 1 else n) ∧ y_ ≤ l.length) ∧ Has w44 b_4 [.slice none 0 0, .int .i64 0, .int .i64 0, .int .i64 0] 64 ∧ Sub w w44) ?_ (fun y_ w44 hJ => ?_)
        ·
          refine RC.seq ?_
          refine RC.region rfl ?_
          refine RL.ev (.move rfl) rfl rfl ?_
          refine RL.ev (.bin rfl rfl rfl) rfl rfl ?_
          refine RL.nil (RC.back ?_)
          refine RC.cond_dec rfl (fun h45 => ?_) (fun h45 => ?_)
          ·
            have is1 : is = true := (hat2.resolve_left (fun q => by omega)).2.1
            obtain ⟨x, hx, hxk⟩ := g0.1 is1
            have hnl := lt_of_get hx
            refine RC.region rfl ?_
            refine RL.ev (.move rfl) rfl rfl ?_
            refine RL.ev (.as (.bin rfl rfl rfl) (wi64 (y := ((n + 1 : Nat) : Int)) (by omega) (by omega))) rfl rfl ?_
            refine RL.ev (.assign rfl) rfl rfl ?_
            exact RL.nil (fun a ka => ⟨n + 1, ⟨⟨by rw [is1]; rfl, by omega⟩, hb_4, S⟩, ka.keep (keep_of (by repeat (first | exact trivial | refine And.intro rfl ?_)))⟩)
          ·
            have is0 : is = false := (hat2.resolve_right (fun q => by omega)).2
            exact RC.skip (fun a ka => ⟨n, ⟨⟨by rw [is0]; rfl, g3⟩, hb_4, S⟩, ka.keep (keep_of (by repeat (first | exact trivial | refine And.intro rfl ?_)))⟩)
        obtain ⟨⟨hyk, hyl⟩, hb_4, S⟩ := hJ
        refine RC.seq ?_
        refine RC.seq ?_
        refine RC.region rfl ?_
        refine RL.ev (.move rfl) rfl rfl ?_
        refine RL.ev (.bin rfl rfl rfl) rfl rfl ?_
        refine RL.nil (RC.back ?_)
        refine RC.cond_dec rfl (fun h46 => ?_) (fun h46 => ?_)
        ·
          have g96 : y_ = 0 := (by omega)
          refine RC.seq ?_
          refine RC.region rfl ?_
          refine RL.ev (.move rfl) rfl rfl ?_
          refine RL.ev (.as (v' := .agg #[.int .i64 3, .int .i64 0, .int .i64 0]) (.buildS ze43 pl43 rfl rfl) (by kernel_rfl)) rfl rfl ?_
          refine RL.ev (.as (v' := .agg #[.slice a l.length c, .int .i64 3, .int .i64 0, .int .i64 0]) (.buildS ze64 pl64 rfl rfl) (by kernel_rfl)) rfl rfl ?_
          refine RL.store sh64 rfl rfl rfl hb_4 (by exact Nat.le_of_ble_eq_true rfl) (by rfl) rfl (fun w47 z47 hb_4 a47 => ?_)
          have S := S.upd a47 ge_4
          have hb_4 : Has w47 b_4 ([.slice a l.length c, .int .i64 3, .int .i64 0, .int .i64 0]) _ := hb_4.now (by kernel_rfl)
          refine RL.nil (RC.back ?_)
          refine RC.done (rs := [.cell 4 64]) (vs := [_]) rfl rfl ⟨⟨_, rfl, .inr ⟨[.slice a l.length c, .int .i64 3, .int .i64 0, .int .i64 0], sh64, hb_4.row, rfl⟩⟩, trivial⟩ ?_
          -- end 7
          have he : pairsM l o = (l, ⟨3, 0, 0⟩) := (by rw [hdef, if_neg n6, if_neg n2, if_pos k4, if_pos (by rw [← hyk]; exact g96)])
          rw [he]
          exact ⟨S, _, _, M, rfl, hc, hF.sub S, Up.refl _ _⟩
        ·
          have g96 : 0 < y_ := (by omega)
          obtain ⟨y, hy⟩ := getSome (l := l) (i := y_ - 1) (by omega)
          have hva := valAt_get hy
          refine RC.skip (RC.back ?_)
          refine RC.seq ?_
          refine RC.drawD (fun k => k = b_4) [15] w44.heap.size 16 rfl rfl mxo (fun w48 s49 => ?_)
          have hNN : ∀ k, ((k = b_4) ∨ w44.heap.size ≤ k) → w.heap.size ≤ k := fun k e => e.elim (fun e => e ▸ ge_4) (fun e => Nat.le_trans S.size e)
          have ent_S := S.size
          have hN0 : ∀ k, w44.heap.size ≤ k → w.heap.size ≤ k := fun k e => Nat.le_trans S.size e
          have ltD_b_4 := hb_4.lt
          have szD := Nat.le_refl w44.heap.size
          have S := S.trans s49
          have hb_4 := hb_4.sub s49
          have szD := Nat.le_trans szD s49.size
          refine RD.take 0 rfl (by kernel_rfl) (by kernel_rfl) (by kernel_rfl) (fun w' s' => .move rfl) rfl rfl ?_
          refine RD.take 1 rfl (by kernel_rfl) (by kernel_rfl) (by kernel_rfl) (fun w' s' => .move rfl) rfl rfl ?_
          refine RD.take 2 rfl (by kernel_rfl) (by kernel_rfl) (by kernel_rfl) (fun w' s' => .move rfl) rfl rfl ?_
          refine RD.take 3 rfl (by kernel_rfl) (by kernel_rfl) (by kernel_rfl) (fun w' s' => .as (.bin rfl rfl rfl) (wi64 (y := ((y_ - 1 : Nat) : Int)) (by omega) (by omega))) rfl rfl ?_
          refine RD.take 4 rfl (by kernel_rfl) (by kernel_rfl) (by kernel_rfl) (fun w' s' => .indexS sl35 rfl rfl (by omega) (hl.is (i := 0) (by simp only [List.length_map, List.length_cons, List.length_nil]; omega))) rfl rfl ?_
          refine RD.take 5 rfl (by kernel_rfl) (by kernel_rfl) (by kernel_rfl) (fun w' s' => .fieldA fo82_0 rfl) rfl rfl ?_
          refine RD.take 6 rfl (by kernel_rfl) (by kernel_rfl) (by kernel_rfl) (fun w' s' => .load1 sh2 rfl ((hl.sub (S.agrN s' hNN)).cell (enc := It.cells) (i := y_ - 1) (j := 0) hy rfl)) rfl rfl ?_
          refine RD.take 7 rfl (by kernel_rfl) (by kernel_rfl) (by kernel_rfl) (fun w' s' => .move rfl) rfl rfl ?_
          refine RD.take 8 rfl (by kernel_rfl) (by kernel_rfl) (by kernel_rfl) (fun w' s' => .move rfl) rfl rfl ?_
          refine RD.take 9 rfl (by kernel_rfl) (by kernel_rfl) (by kernel_rfl) (fun w' s' => .as (.bin rfl rfl rfl) (wi64 (y := ((y_ - 1 : Nat) : Int)) (by omega) (by omega))) rfl rfl ?_
          refine RD.take 10 rfl (by kernel_rfl) (by kernel_rfl) (by kernel_rfl) (fun w' s' => .indexS sl35 rfl rfl (by omega) (hl.is (i := 0) (by simp only [List.length_map, List.length_cons, List.length_nil]; omega))) rfl rfl ?_
          refine RD.take 11 rfl (by kernel_rfl) (by kernel_rfl) (by kernel_rfl) (fun w' s' => .fieldA fo82_1 rfl) rfl rfl ?_
          refine RD.take 12 rfl (by kernel_rfl) (by kernel_rfl) (by kernel_rfl) (fun w' s' => .load1 sh2 rfl ((hl.sub (S.agrN s' hNN)).cell (enc := It.cells) (i := y_ - 1) (j := 1) hy rfl)) rfl rfl ?_
          refine RD.take 13 rfl (by kernel_rfl) (by kernel_rfl) (by kernel_rfl) (fun w' s' => .as (v' := .agg #[.int .i64 0, .int .i64 y.k, .int .i64 y.v]) (.buildS ze43 pl43 rfl rfl) (by kernel_rfl)) rfl rfl ?_
          refine RD.take 14 rfl (by kernel_rfl) (by kernel_rfl) (by kernel_rfl) (fun w' s' => .as (v' := .agg #[.slice a l.length c, .int .i64 0, .int .i64 y.k, .int .i64 y.v]) (.buildS ze64 pl64 rfl rfl) (by kernel_rfl)) rfl rfl ?_
          refine RD.all [15] (by kernel_rfl) rfl (RDs.cons rfl ?_ (RDs.nil))
          refine RL.store sh64 rfl rfl rfl hb_4 (by exact Nat.le_of_ble_eq_true rfl) (by rfl) rfl (fun w50 z50 hb_4 a50 => ?_)
          have S := S.upd a50 ge_4
          have szD := Nat.le_trans szD a50.size
          have hb_4 : Has w50 b_4 ([.slice a l.length c, .int .i64 0, .int .i64 y.k, .int .i64 y.v]) _ := hb_4.now (by kernel_rfl)
          refine RD.backW rfl (a50.mono fun k _ e => e ▸ (.inl (rfl))) ?_
          refine RD.done (by kernel_rfl) (RC.back ?_)
          refine RC.done (rs := [.cell 4 64]) (vs := [_]) rfl rfl ⟨⟨_, rfl, .inr ⟨[.slice a l.length c, .int .i64 0, .int .i64 y.k, .int .i64 y.v], sh64, hb_4.row, rfl⟩⟩, trivial⟩ ?_
          -- end 8
          have he : pairsM l o = (l, ⟨0, y.k, y.v⟩) := (by rw [hdef, if_neg n6, if_neg n2, if_pos k4, if_neg (by rw [← hyk]; omega), ← hyk, hva])
          rw [he]
          exact ⟨S, _, _, M, rfl, hc, hF.sub S, Up.refl _ _⟩
      ·
        have n4 := h43
        refine RC.seq ?_
        refine RC.region rfl ?_
        refine RL.ev (.bin rfl rfl rfl) rfl rfl ?_
        refine RL.ev (.assign rfl) rfl rfl ?_
        refine RL.nil (RC.back ?_)
        refine RC.cond_dec rfl (fun h51 => ?_) (fun h51 => ?_)
        ·
          have k5 := h51
          refine RC.seq ?_
          refine RC.region rfl ?_
          refine RL.ev (.move rfl) rfl rfl ?_
          refine RL.ev (.move rfl) rfl rfl ?_
          refine RL.ev (.as (v' := .agg #[.int .i64 0, .int .i64 (n : Int), .int .i64 0]) (.buildS ze43 pl43 rfl rfl) (by kernel_rfl)) rfl rfl ?_
          refine RL.ev (.as (v' := .agg #[.slice a l.length c, .int .i64 0, .int .i64 (n : Int), .int .i64 0]) (.buildS ze64 pl64 rfl rfl) (by kernel_rfl)) rfl rfl ?_
          refine RL.store sh64 rfl rfl rfl hb_4 (by exact Nat.le_of_ble_eq_true rfl) (by rfl) rfl (fun w52 z52 hb_4 a52 => ?_)
          have S := S.upd a52 ge_4
          have hb_3 := hb_3.upd a52 n_3__4
          have hb_4 : Has w52 b_4 ([.slice a l.length c, .int .i64 0, .int .i64 (n : Int), .int .i64 0]) _ := hb_4.now (by kernel_rfl)
          refine RL.nil (RC.back ?_)
          refine RC.done (rs := [.cell 4 64]) (vs := [_]) rfl rfl ⟨⟨_, rfl, .inr ⟨[.slice a l.length c, .int .i64 0, .int .i64 (n : Int), .int .i64 0], sh64, hb_4.row, rfl⟩⟩, trivial⟩ ?_
          -- end 9
          have he : pairsM l o = (l, ⟨0, (n : Int), 0⟩) := (by rw [hdef, if_neg n6, if_neg n2, if_neg n4, if_pos k5])
          rw [he]
          exact ⟨S, _, _, M, rfl, hc, hF.sub S, Up.refl _ _⟩
        ·
          have n5 := h51
          refine RC.skip (RC.back ?_)
          refine RC.seq ?_
          refine RC.seq ?_
          refine RC.region rfl ?_
          refine RL.ev (.move rfl) rfl rfl ?_
          refine RL.ev (.bin rfl rfl rfl) rfl rfl ?_
          refine RL.nil (RC.back ?_)
          refine RC.cond_dec rfl (fun h53 => ?_) (fun h53 => ?_)
          ·
            have is0 : is = false := (hat2.resolve_right (fun q => by omega)).2
            refine RC.seq ?_
            refine RC.region rfl ?_
            refine RL.ev (.move rfl) rfl rfl ?_
            refine RL.ev (.as (v' := .agg #[.int .i64 3, .int .i64 0, .int .i64 0]) (.buildS ze43 pl43 rfl rfl) (by kernel_rfl)) rfl rfl ?_
            refine RL.ev (.as (v' := .agg #[.slice a l.length c, .int .i64 3, .int .i64 0, .int .i64 0]) (.buildS ze64 pl64 rfl rfl) (by kernel_rfl)) rfl rfl ?_
            refine RL.store sh64 rfl rfl rfl hb_4 (by exact Nat.le_of_ble_eq_true rfl) (by rfl) rfl (fun w54 z54 hb_4 a54 => ?_)
            have S := S.upd a54 ge_4
            have hb_3 := hb_3.upd a54 n_3__4
            have hb_4 : Has w54 b_4 ([.slice a l.length c, .int .i64 3, .int .i64 0, .int .i64 0]) _ := hb_4.now (by kernel_rfl)
            refine RL.nil (RC.back ?_)
            refine RC.done (rs := [.cell 4 64]) (vs := [_]) rfl rfl ⟨⟨_, rfl, .inr ⟨[.slice a l.length c, .int .i64 3, .int .i64 0, .int .i64 0], sh64, hb_4.row, rfl⟩⟩, trivial⟩ ?_
            -- end 10
            have he : pairsM l o = (l, ⟨3, 0, 0⟩) := (by rw [hdef, if_neg (by omega), if_neg (by omega), if_neg (by omega), if_neg (by omega), if_pos is0])
            rw [he]
            exact ⟨S, _, _, M, rfl, hc, hF.sub S, Up.refl _ _⟩
          ·
            obtain ⟨hatn, is1, x, hx, hxk⟩ := hat2.resolve_left (fun q => by omega)
            subst hatn
            have hnl := lt_of_get hx
            have hva := valAt_get hx
            refine RC.skip (RC.back ?_)
            refine RC.seq ?_
            refine RC.region rfl ?_
            refine RL.ev (.move rfl) rfl rfl ?_
            refine RL.ev (.move rfl) rfl rfl ?_
            refine RL.ev (.indexS sl35 rfl rfl (by omega) (hl.is (i := 0) (by simp only [List.length_map, List.length_cons, List.length_nil]; omega))) rfl rfl ?_
            refine RL.ev (.fieldA fo82_1 rfl) rfl rfl ?_
            refine RL.ev (.load1 sh2 rfl ((hl.sub S).cell (enc := It.cells) (i := n) (j := 1) hx rfl)) rfl rfl ?_
            refine RL.ev (.as (v' := .agg #[.int .i64 0, .int .i64 x.v, .int .i64 0]) (.buildS ze43 pl43 rfl rfl) (by kernel_rfl)) rfl rfl ?_
            refine RL.alloc ze43 rfl rfl (fun b_8 w_8 e_8 z_8 hb_8 s_8 => ?_)
            have ge_8 := S.le e_8
            have n_3__8 := hb_3.ne e_8
            have n_4__8 := hb_4.ne e_8
            have S := S.trans s_8
            have hb_3 := hb_3.sub s_8
            have hb_4 := hb_4.sub s_8
            refine RL.store sh43 rfl rfl rfl hb_8 (by exact Nat.le_of_ble_eq_true rfl) (by rfl) rfl (fun w55 z55 hb_8 a55 => ?_)
            have S := S.upd a55 ge_8
            have hb_3 := hb_3.upd a55 n_3__8
            have hb_4 := hb_4.upd a55 n_4__8
            have hb_8 : Has w55 b_8 ([.int .i64 0, .int .i64 x.v, .int .i64 0]) _ := hb_8.now (by kernel_rfl)
            refine RL.nil (RC.back ?_)
            refine RC.seq ?_
            refine RC.seq ?_
            refine RC.region rfl ?_
            refine RL.ev (.field0 fo40_1 rfl) rfl rfl ?_
            refine RL.ev (.load1 sh3 rfl (hb_3.cell rfl)) rfl rfl ?_
            refine RL.ev (.bin rfl rfl rfl) rfl rfl ?_
            refine RL.nil (RC.back ?_)
            refine RC.cond_dec rfl (fun h56 => ?_) (fun h56 => ?_)
            ·
              have k3 := h56
              refine RC.seq ?_
              refine RC.drawD (fun k => k = b_4) [6] w55.heap.size 7 rfl rfl mxo (fun w57 s58 => ?_)
              have hNN : ∀ k, ((k = b_4) ∨ w55.heap.size ≤ k) → w.heap.size ≤ k := fun k e => e.elim (fun e => e ▸ ge_4) (fun e => Nat.le_trans S.size e)
              have ent_S := S.size
              have hN0 : ∀ k, w55.heap.size ≤ k → w.heap.size ≤ k := fun k e => Nat.le_trans S.size e
              have ltD_b_3 := hb_3.lt
              have ltD_b_4 := hb_4.lt
              have ltD_b_8 := hb_8.lt
              have szD := Nat.le_refl w55.heap.size
              have S := S.trans s58
              have hb_3 := hb_3.sub s58
              have hb_4 := hb_4.sub s58
              have hb_8 := hb_8.sub s58
              have szD := Nat.le_trans szD s58.size
              refine RD.take 0 rfl (by kernel_rfl) (by kernel_rfl) (by kernel_rfl) (fun w' s' => .move rfl) rfl rfl ?_
              refine RD.take 1 rfl (by kernel_rfl) (by kernel_rfl) (by kernel_rfl) (fun w' s' => .field0 fo40_2 rfl) rfl rfl ?_
              refine RD.take 2 rfl (by kernel_rfl) (by kernel_rfl) (by kernel_rfl) (fun w' s' => .load1 sh2 rfl ((hb_3.step s' (fun e => e.elim (fun e => n_3__4 e) (fun e => Nat.not_le.2 ltD_b_3 e))).cell rfl)) rfl rfl ?_
              refine RD.take 4 rfl (by kernel_rfl) (by kernel_rfl) (by kernel_rfl) (fun w' s' => .loadR ([.int .i64 0, .int .i64 x.v, .int .i64 0]) sh43 rfl (hb_8.step s' (fun e => e.elim (fun e => n_4__8.symm e) (fun e => Nat.not_le.2 ltD_b_8 e))).row rfl) rfl rfl ?_
              refine RD.all [3] (by kernel_rfl) rfl (RDs.cons rfl ?_ (RDs.nil))
              refine RL.call rfl ok44 (c_refDel l a c _ rfl o.a w57 (hl.sub S) (by omega)) rfl rfl ?_
              rintro _ w59 ⟨a8, c8, rfl, o8, s60⟩
              have lt4 := hb_4.lt
              have lt3 := hb_3.lt
              have lt8 := hb_8.lt
              have szS8 := S.size
              have S := S.trans s60
              have hb_3 := hb_3.sub s60
              have hb_4 := hb_4.sub s60
              have hb_8 := hb_8.sub s60
              have szD := Nat.le_trans szD s60.size
              have d84 : ∀ k, ob (.slice a8 ((delL l o.a).map It.cells).length c8) = some k → k ≠ b_4 := (fun k hk e => by have := (o8.ge k hk).1; omega)
              have d83 : ∀ k, ob (.slice a8 ((delL l o.a).map It.cells).length c8) = some k → k ≠ b_3 := (fun k hk e => by have := (o8.ge k hk).1; omega)
              have d88 : ∀ k, ob (.slice a8 ((delL l o.a).map It.cells).length c8) = some k → k ≠ b_8 := (fun k hk e => by have := (o8.ge k hk).1; omega)
              refine RD.back s60.agr ?_
              refine RD.take 5 rfl (by kernel_rfl) (by kernel_rfl) (by kernel_rfl) (fun w' s' => .as (v' := .agg #[.slice a8 ((delL l o.a).map It.cells).length c8, .int .i64 0, .int .i64 x.v, .int .i64 0]) (.buildS ze64 pl64 rfl rfl) (by kernel_rfl)) rfl rfl ?_
              refine RD.all [6] (by kernel_rfl) rfl (RDs.cons rfl ?_ (RDs.nil))
              refine RL.store sh64 rfl rfl rfl hb_4 (by exact Nat.le_of_ble_eq_true rfl) (by rfl) rfl (fun w61 z61 hb_4 a61 => ?_)
              have S := S.upd a61 ge_4
              have hb_3 := hb_3.upd a61 n_3__4
              have hb_8 := hb_8.upd a61 n_4__8.symm
              have szD := Nat.le_trans szD a61.size
              have o8 := o8.updD a61 d84
              have hb_4 : Has w61 b_4 ([.slice a8 ((delL l o.a).map It.cells).length c8, .int .i64 0, .int .i64 x.v, .int .i64 0]) _ := hb_4.now (by kernel_rfl)
              refine RD.backW rfl (a61.mono fun k _ e => e ▸ (.inl (rfl))) ?_
              refine RD.done (by kernel_rfl) (RC.back ?_)
              refine RC.done (rs := [.cell 4 64]) (vs := [_]) rfl rfl ⟨⟨_, rfl, .inr ⟨[.slice a8 ((delL l o.a).map It.cells).length c8, .int .i64 0, .int .i64 x.v, .int .i64 0], sh64, hb_4.row, rfl⟩⟩, trivial⟩ ?_
              -- end 11
              have he : pairsM l o = (delL l o.a, ⟨0, x.v, 0⟩) := (by rw [hdef, if_neg (by omega), if_neg (by omega), if_neg (by omega), if_neg (by omega), if_neg (by rw [is1]; simp), if_pos k3, hva])
              rw [he]
              obtain ⟨_, c9, e9, k9⟩ := o8.form
              cases e9
              rw [List.length_map] at k9
              exact ⟨S, _, _, _, by rw [List.length_map]; rfl, k9, o8.ft.imp (fun u h => h.sl.1), fun k hk => .inr (Nat.le_trans szS8 (o8.ge k hk).1)⟩
            ·
              have n3 := h56
              refine RC.skip (RC.back ?_)
              refine RC.seq ?_
              refine RC.region rfl ?_
              refine RL.ev (.move rfl) rfl rfl ?_
              refine RL.ev (.loadR ([.int .i64 0, .int .i64 x.v, .int .i64 0]) sh43 rfl hb_8.row rfl) rfl rfl ?_
              refine RL.ev (.as (v' := .agg #[.slice a l.length c, .int .i64 0, .int .i64 x.v, .int .i64 0]) (.buildS ze64 pl64 rfl rfl) (by kernel_rfl)) rfl rfl ?_
              refine RL.store sh64 rfl rfl rfl hb_4 (by exact Nat.le_of_ble_eq_true rfl) (by rfl) rfl (fun w62 z62 hb_4 a62 => ?_)
              have S := S.upd a62 ge_4
              have hb_3 := hb_3.upd a62 n_3__4
              have hb_8 := hb_8.upd a62 n_4__8.symm
              have hb_4 : Has w62 b_4 ([.slice a l.length c, .int .i64 0, .int .i64 x.v, .int .i64 0]) _ := hb_4.now (by kernel_rfl)
              refine RL.nil (RC.back ?_)
              refine RC.done (rs := [.cell 4 64]) (vs := [_]) rfl rfl ⟨⟨_, rfl, .inr ⟨[.slice a l.length c, .int .i64 0, .int .i64 x.v, .int .i64 0], sh64, hb_4.row, rfl⟩⟩, trivial⟩ ?_
              -- end 12
              have he : pairsM l o = (l, ⟨0, x.v, 0⟩) := (by rw [hdef, if_neg (by omega), if_neg (by omega), if_neg (by omega), if_neg (by omega), if_neg (by rw [is1]; simp), if_neg n3, hva])
              rw [he]
              exact ⟨S, _, _, M, rfl, hc, hF.sub S, Up.refl _ _⟩
end Go.Proofs.Ytlhnnleaiinjaaa
set_option linter.unusedVariables false
set_option linter.unusedSimpArgs false
namespace Go.Proofs.Ytlhnnleaiinjaaa
open Go Go.XL
theorem c_boxes (w : World) : FC Try.prog 57 [] w (Val (.agg #[.func (.func 63) #[] #[], .func (.func 65) #[] #[], .func (.func 66) #[] #[], .func (.func 68) #[] #[]]) w) := by
  refine FC.intro Try.func57 rfl Try.ntmps57 rfl ?_
  have S := Sub.refl w
  refine RC.seq ?_
  refine RC.region rfl ?_
  refine RL.alloc ze95 rfl rfl (fun b_0 w_0 e_0 z_0 hb_0 s_0 => ?_)
  have ge_0 := S.le e_0
  have S := S.trans s_0
  refine RL.nil (RC.back ?_)
  refine RC.seq ?_
  refine RC.region rfl ?_
  refine RL.ev (.buildA ze95 ar95 rfl rfl) rfl rfl ?_
  refine RL.store sh95 rfl rfl rfl hb_0 (by exact Nat.le_of_ble_eq_true rfl) (by rfl) rfl (fun w1 z1 hb_0 a1 => ?_)
  have S := S.upd a1 ge_0
  have hb_0 : Has w1 b_0 ([.func (.func 63) #[] #[], .func (.func 65) #[] #[], .func (.func 66) #[] #[], .func (.func 68) #[] #[]]) _ := hb_0.now (by kernel_rfl)
  refine RL.nil (RC.back ?_)
  refine RC.done (rs := [.cell 0 95]) (vs := [_]) rfl rfl ⟨⟨_, rfl, .inr ⟨[.func (.func 63) #[] #[], .func (.func 65) #[] #[], .func (.func 66) #[] #[], .func (.func 68) #[] #[]], sh95, hb_0.row, rfl⟩⟩, trivial⟩ ?_
  -- end 1
  exact ⟨rfl, S⟩
theorem c_box1 (b : Nat) (p : Ph) (m : Mo) (hs : Srt m.map) (hl200 : m.map.length ≤ 200) (hc : m.map.length ≤ p.c1) (o : OpT) (hok : okP o) (w : World) (M : Nat → Prop) (hF : Ft M (fun u => Sl u p.a1 2 (m.map.map It.cells)) w) (hb : Has w b (moC p m) 38) (hn : ∀ k, M k → k ≠ b) :
    FC Try.prog 63 [.pointer (some ⟨b, 0, none⟩), .agg o.cells.toArray] w (fun u w' => ∃ a' c' M', u = .agg (pairsM m.map o).2.cells.toArray ∧ (pairsM m.map o).1.length ≤ c' ∧ Ft M' (fun u => Sl u a' 2 ((pairsM m.map o).1.map It.cells)) w' ∧ Up M w M' ∧ Has w' b [.slice a' (pairsM m.map o).1.length c', .slice p.a2 m.tab.length p.c2, .slice p.a3 m.row.length p.c3, .slice p.a4 m.heap.length p.c4] 38 ∧ Agr (· = b) w w') := by
  have G : Agr (· = b) w w := Agr.refl _ _
  refine FC.intro Try.func63 rfl Try.ntmps63 rfl ?_
  have ltb := hb.lt
  refine RC.seq ?_
  refine RC.region rfl ?_
  refine RL.box rfl rfl rfl (fun b_3 w_3 e_3 z_3 hb_3 s_3 => ?_)
  have n__3 := hb.ne e_3
  have d_hF_b_3 := hF.neNew e_3
  have hb := hb.sub s_3
  have hF := hF.sub s_3
  have geG_3 := agLe G e_3
  have G := G.trans s_3.agr
  have hb_3 : Has w_3 b_3 ([.int .i64 o.box, .int .i64 o.kind, .int .i64 o.a, .int .i64 o.b]) _ := hb_3
  refine RL.alloc ze43 rfl rfl (fun b_4 w_4 e_4 z_4 hb_4 s_4 => ?_)
  have n__4 := hb.ne e_4
  have n_3__4 := hb_3.ne e_4
  have d_hF_b_4 := hF.neNew e_4
  have hb := hb.sub s_4
  have hF := hF.sub s_4
  have geG_4 := agLe G e_4
  have G := G.trans s_4.agr
  have hb_3 := hb_3.sub s_4
  refine RL.nil (RC.back ?_)
  refine RC.seq ?_
  refine RC.drawD (fun k => False) [11] w_4.heap.size 12 rfl rfl mxo (fun w1 s2 => ?_)
  have ltD_b := hb.lt
  have ltD_hF := fun k hk => (hF.ge k hk).2
  have ltD_b_3 := hb_3.lt
  have ltD_b_4 := hb_4.lt
  have szD := Nat.le_refl w_4.heap.size
  have hb := hb.sub s2
  have hF := hF.sub s2
  have G := G.trans s2.agr
  have hb_3 := hb_3.sub s2
  have hb_4 := hb_4.sub s2
  have szD := Nat.le_trans szD s2.size
  refine RD.take 0 rfl (by kernel_rfl) (by kernel_rfl) (by kernel_rfl) (fun w' s' => .move rfl) rfl rfl ?_
  refine RD.take 1 rfl (by kernel_rfl) (by kernel_rfl) (by kernel_rfl) (fun w' s' => .nilCheck rfl) rfl rfl ?_
  refine RD.take 2 rfl (by kernel_rfl) (by kernel_rfl) (by kernel_rfl) (fun w' s' => .field0 fo38_0 rfl) rfl rfl ?_
  refine RD.take 3 rfl (by kernel_rfl) (by kernel_rfl) (by kernel_rfl) (fun w' s' => .load1 sh35 rfl ((hb.step s' (fun e => e.elim (fun e => e.elim) (fun e => Nat.not_le.2 ltD_b e))).cell rfl)) rfl rfl ?_
  refine RD.take 4 rfl (by kernel_rfl) (by kernel_rfl) (by kernel_rfl) (fun w' s' => .loadR ([.int .i64 o.box, .int .i64 o.kind, .int .i64 o.a, .int .i64 o.b]) sh40 rfl (hb_3.step s' (fun e => e.elim (fun e => e.elim) (fun e => Nat.not_le.2 ltD_b_3 e))).row rfl) rfl rfl ?_
  refine RD.all [5, 9] (by kernel_rfl) rfl (RDs.cons rfl ?_ (RDs.cons rfl ?_ (RDs.nil)))
  ·
    refine RL.call rfl ok64 (c_pairs m.map p.a1 p.c1 _ rfl hs hl200 hc o hok w1 M hF) rfl rfl ?_
    rintro _ w3 ⟨s4, a', c', M', rfl, hc', hF', hup⟩
    have d_hF'_b := upNe hup hn hb.lt
    have d_hF'_b_3 := upNe hup d_hF_b_3 hb_3.lt
    have d_hF'_b_4 := upNe hup d_hF_b_4 hb_4.lt
    have hup := hup.le G.size
    have hb := hb.sub s4
    have hF := hF.sub s4
    have G := G.trans s4.agr
    have hb_3 := hb_3.sub s4
    have hb_4 := hb_4.sub s4
    have szD := Nat.le_trans szD s4.size
    refine RD.back s4.agr ?_
    refine RD.take 6 rfl (by kernel_rfl) (by kernel_rfl) (by kernel_rfl) (fun w' s' => .move rfl) rfl rfl ?_
    refine RD.take 7 rfl (by kernel_rfl) (by kernel_rfl) (by kernel_rfl) (fun w' s' => .extract rfl rfl) rfl rfl ?_
    refine RD.take 8 rfl (by kernel_rfl) (by kernel_rfl) (by kernel_rfl) (fun w' s' => .extract rfl rfl) rfl rfl ?_
    refine RD.all [9] (by kernel_rfl) rfl (RDs.cons rfl ?_ (RDs.nil))
    refine RL.alloc ze43 rfl rfl (fun b_6 w_6 e_6 z_6 hb_6 s_6 => ?_)
    have fr_b_6 : w_4.heap.size ≤ b_6 := by rw [e_6]; exact szD
    have n__6 := hb.ne e_6
    have n_3__6 := hb_3.ne e_6
    have n_4__6 := hb_4.ne e_6
    have d_hF'_b_6 := hF'.neNew e_6
    have hb := hb.sub s_6
    have geG_6 := agLe G e_6
    have G := G.trans s_6.agr
    have hb_3 := hb_3.sub s_6
    have hb_4 := hb_4.sub s_6
    have szD := Nat.le_trans szD s_6.size
    have hF' := hF'.sub s_6
    refine RD.back s_6.agr ?_
    refine RD.take 10 rfl (by kernel_rfl) (by kernel_rfl) (by kernel_rfl) (fun w' s' => .assign rfl) rfl rfl ?_
    refine RD.all [11] (by kernel_rfl) rfl (RDs.cons rfl ?_ (RDs.nil))
    refine RL.store sh43 rfl rfl rfl hb_6 (by exact Nat.le_of_ble_eq_true rfl) (by rfl) rfl (fun w5 z5 hb_6 a5 => ?_)
    have hb := hb.upd a5 n__6
    have G := agNew G a5 geG_6
    have hb_3 := hb_3.upd a5 n_3__6
    have hb_4 := hb_4.upd a5 n_4__6
    have szD := Nat.le_trans szD a5.size
    have hF' := hF'.updD a5 d_hF'_b_6
    have hb_6 : Has w5 b_6 ([.int .i64 (pairsM m.map o).2.e, .int .i64 (pairsM m.map o).2.a, .int .i64 (pairsM m.map o).2.b]) _ := hb_6.now (by kernel_rfl)
    refine RD.backW rfl (a5.mono fun k _ e => e ▸ (.inr fr_b_6)) ?_
    refine RD.done (by kernel_rfl) (RC.back ?_)
    refine RC.seq ?_
    refine RC.region rfl ?_
    refine RL.ev (.move rfl) rfl rfl ?_
    refine RL.ev (.move rfl) rfl rfl ?_
    refine RL.ev (.nilCheck rfl) rfl rfl ?_
    refine RL.ev (.field0 fo38_0 rfl) rfl rfl ?_
    refine RL.store sh35 rfl rfl rfl hb (by exact Nat.le_of_ble_eq_true rfl) (by rfl) rfl (fun w6 z6 hb a6 => ?_)
    have G := G.trans a6
    have hb_3 := hb_3.upd a6 n__3.symm
    have hb_4 := hb_4.upd a6 n__4.symm
    have hF' := hF'.updD a6 d_hF'_b
    have hb_6 := hb_6.upd a6 n__6.symm
    have hb : Has w6 b ([.slice a' (pairsM m.map o).1.length c', .slice p.a2 m.tab.length p.c2, .slice p.a3 m.row.length p.c3, .slice p.a4 m.heap.length p.c4]) _ := hb
    refine RL.nil (RC.back ?_)
    refine RC.seq ?_
    refine RC.region rfl ?_
    refine RL.ev (.loadR ([.int .i64 (pairsM m.map o).2.e, .int .i64 (pairsM m.map o).2.a, .int .i64 (pairsM m.map o).2.b]) sh43 rfl hb_6.row rfl) rfl rfl ?_
    refine RL.store sh43 rfl rfl rfl hb_4 (by exact Nat.le_of_ble_eq_true rfl) (by rfl) rfl (fun w7 z7 hb_4 a7 => ?_)
    have hb := hb.upd a7 n__4
    have G := agNew G a7 geG_4
    have hb_3 := hb_3.upd a7 n_3__4
    have hF' := hF'.updD a7 d_hF'_b_4
    have hb_6 := hb_6.upd a7 n_4__6.symm
    have hb_4 : Has w7 b_4 ([.int .i64 (pairsM m.map o).2.e, .int .i64 (pairsM m.map o).2.a, .int .i64 (pairsM m.map o).2.b]) _ := hb_4.now (by kernel_rfl)
    refine RL.nil (RC.back ?_)
    refine RC.done (rs := [.cell 4 43]) (vs := [_]) rfl rfl ⟨⟨_, rfl, .inr ⟨[.int .i64 (pairsM m.map o).2.e, .int .i64 (pairsM m.map o).2.a, .int .i64 (pairsM m.map o).2.b], sh43, hb_4.row, rfl⟩⟩, trivial⟩ ?_
    -- end 1
    exact ⟨a', c', M', rfl, hc', hF', hup, hb, G⟩
  ·
    refine RL.alloc ze43 rfl rfl (fun b_6 w_6 e_6 z_6 hb_6 s_6 => ?_)
    have fr_b_6 : w_4.heap.size ≤ b_6 := by rw [e_6]; exact szD
    have n__6 := hb.ne e_6
    have n_3__6 := hb_3.ne e_6
    have n_4__6 := hb_4.ne e_6
    have d_hF_b_6 := hF.neNew e_6
    have hb := hb.sub s_6
    have hF := hF.sub s_6
    have geG_6 := agLe G e_6
    have G := G.trans s_6.agr
    have hb_3 := hb_3.sub s_6
    have hb_4 := hb_4.sub s_6
    have szD := Nat.le_trans szD s_6.size
    refine RD.back s_6.agr ?_
    refine RD.all [5] (by kernel_rfl) rfl (RDs.cons rfl ?_ (RDs.nil))
    refine RL.call rfl ok64 (c_pairs m.map p.a1 p.c1 _ rfl hs hl200 hc o hok w_6 M hF) rfl rfl ?_
    rintro _ w8 ⟨s9, a', c', M', rfl, hc', hF', hup⟩
    have d_hF'_b := upNe hup hn hb.lt
    have d_hF'_b_3 := upNe hup d_hF_b_3 hb_3.lt
    have d_hF'_b_4 := upNe hup d_hF_b_4 hb_4.lt
    have d_hF'_b_6 := upNe hup d_hF_b_6 hb_6.lt
    have hup := hup.le G.size
    have hb := hb.sub s9
    have hF := hF.sub s9
    have G := G.trans s9.agr
    have hb_3 := hb_3.sub s9
    have hb_4 := hb_4.sub s9
    have szD := Nat.le_trans szD s9.size
    have hb_6 := hb_6.sub s9
    refine RD.back s9.agr ?_
    refine RD.take 6 rfl (by kernel_rfl) (by kernel_rfl) (by kernel_rfl) (fun w' s' => .move rfl) rfl rfl ?_
    refine RD.take 7 rfl (by kernel_rfl) (by kernel_rfl) (by kernel_rfl) (fun w' s' => .extract rfl rfl) rfl rfl ?_
    refine RD.take 8 rfl (by kernel_rfl) (by kernel_rfl) (by kernel_rfl) (fun w' s' => .extract rfl rfl) rfl rfl ?_
    refine RD.take 10 rfl (by kernel_rfl) (by kernel_rfl) (by kernel_rfl) (fun w' s' => .assign rfl) rfl rfl ?_
    refine RD.all [11] (by kernel_rfl) rfl (RDs.cons rfl ?_ (RDs.nil))
    refine RL.store sh43 rfl rfl rfl hb_6 (by exact Nat.le_of_ble_eq_true rfl) (by rfl) rfl (fun w10 z10 hb_6 a10 => ?_)
    have hb := hb.upd a10 n__6
    have G := agNew G a10 geG_6
    have hb_3 := hb_3.upd a10 n_3__6
    have hb_4 := hb_4.upd a10 n_4__6
    have szD := Nat.le_trans szD a10.size
    have hF' := hF'.updD a10 d_hF'_b_6
    have hb_6 : Has w10 b_6 ([.int .i64 (pairsM m.map o).2.e, .int .i64 (pairsM m.map o).2.a, .int .i64 (pairsM m.map o).2.b]) _ := hb_6.now (by kernel_rfl)
    refine RD.backW rfl (a10.mono fun k _ e => e ▸ (.inr fr_b_6)) ?_
    refine RD.done (by kernel_rfl) (RC.back ?_)
    refine RC.seq ?_
    refine RC.region rfl ?_
    refine RL.ev (.move rfl) rfl rfl ?_
    refine RL.ev (.move rfl) rfl rfl ?_
    refine RL.ev (.nilCheck rfl) rfl rfl ?_
    refine RL.ev (.field0 fo38_0 rfl) rfl rfl ?_
    refine RL.store sh35 rfl rfl rfl hb (by exact Nat.le_of_ble_eq_true rfl) (by rfl) rfl (fun w11 z11 hb a11 => ?_)
    have G := G.trans a11
    have hb_3 := hb_3.upd a11 n__3.symm
    have hb_4 := hb_4.upd a11 n__4.symm
    have hb_6 := hb_6.upd a11 n__6.symm
    have hF' := hF'.updD a11 d_hF'_b
    have hb : Has w11 b ([.slice a' (pairsM m.map o).1.length c', .slice p.a2 m.tab.length p.c2, .slice p.a3 m.row.length p.c3, .slice p.a4 m.heap.length p.c4]) _ := hb
    refine RL.nil (RC.back ?_)
    refine RC.seq ?_
    refine RC.region rfl ?_
    refine RL.ev (.loadR ([.int .i64 (pairsM m.map o).2.e, .int .i64 (pairsM m.map o).2.a, .int .i64 (pairsM m.map o).2.b]) sh43 rfl hb_6.row rfl) rfl rfl ?_
    refine RL.store sh43 rfl rfl rfl hb_4 (by exact Nat.le_of_ble_eq_true rfl) (by rfl) rfl (fun w12 z12 hb_4 a12 => ?_)
    have hb := hb.upd a12 n__4
    have G := agNew G a12 geG_4
    have hb_3 := hb_3.upd a12 n_3__4
    have hb_6 := hb_6.upd a12 n_4__6.symm
    have hF' := hF'.updD a12 d_hF'_b_4
    have hb_4 : Has w12 b_4 ([.int .i64 (pairsM m.map o).2.e, .int .i64 (pairsM m.map o).2.a, .int .i64 (pairsM m.map o).2.b]) _ := hb_4.now (by kernel_rfl)
    refine RL.nil (RC.back ?_)
    refine RC.done (rs := [.cell 4 43]) (vs := [_]) rfl rfl ⟨⟨_, rfl, .inr ⟨[.int .i64 (pairsM m.map o).2.e, .int .i64 (pairsM m.map o).2.a, .int .i64 (pairsM m.map o).2.b], sh43, hb_4.row, rfl⟩⟩, trivial⟩ ?_
    -- end 2
    exact ⟨a', c', M', rfl, hc', hF', hup, hb, G⟩
theorem c_box2 (b : Nat) (p : Ph) (m : Mo) (hs : Srt m.tab) (hl200 : m.tab.length ≤ 200) (hc : m.tab.length ≤ p.c2) (o : OpT) (hok : okP o) (w : World) (M : Nat → Prop) (hF : Ft M (fun u => Sl u p.a2 2 (m.tab.map It.cells)) w) (hb : Has w b (moC p m) 38) (hn : ∀ k, M k → k ≠ b) :
    FC Try.prog 65 [.pointer (some ⟨b, 0, none⟩), .agg o.cells.toArray] w (fun u w' => ∃ a' c' M', u = .agg (pairsM m.tab o).2.cells.toArray ∧ (pairsM m.tab o).1.length ≤ c' ∧ Ft M' (fun u => Sl u a' 2 ((pairsM m.tab o).1.map It.cells)) w' ∧ Up M w M' ∧ Has w' b [.slice p.a1 m.map.length p.c1, .slice a' (pairsM m.tab o).1.length c', .slice p.a3 m.row.length p.c3, .slice p.a4 m.heap.length p.c4] 38 ∧ Agr (· = b) w w') := by
  have G : Agr (· = b) w w := Agr.refl _ _
  refine FC.intro Try.func65 rfl Try.ntmps65 rfl ?_
  have ltb := hb.lt
  refine RC.seq ?_
  refine RC.region rfl ?_
  refine RL.box rfl rfl rfl (fun b_3 w_3 e_3 z_3 hb_3 s_3 => ?_)
  have n__3 := hb.ne e_3
  have d_hF_b_3 := hF.neNew e_3
  have hb := hb.sub s_3
  have hF := hF.sub s_3
  have geG_3 := agLe G e_3
  have G := G.trans s_3.agr
  have hb_3 : Has w_3 b_3 ([.int .i64 o.box, .int .i64 o.kind, .int .i64 o.a, .int .i64 o.b]) _ := hb_3
  refine RL.alloc ze43 rfl rfl (fun b_4 w_4 e_4 z_4 hb_4 s_4 => ?_)
  have n__4 := hb.ne e_4
  have n_3__4 := hb_3.ne e_4
  have d_hF_b_4 := hF.neNew e_4
  have hb := hb.sub s_4
  have hF := hF.sub s_4
  have geG_4 := agLe G e_4
  have G := G.trans s_4.agr
  have hb_3 := hb_3.sub s_4
  refine RL.nil (RC.back ?_)
  refine RC.seq ?_
  refine RC.drawD (fun k => False) [11] w_4.heap.size 12 rfl rfl mxo (fun w1 s2 => ?_)
  have ltD_b := hb.lt
  have ltD_hF := fun k hk => (hF.ge k hk).2
  have ltD_b_3 := hb_3.lt
  have ltD_b_4 := hb_4.lt
  have szD := Nat.le_refl w_4.heap.size
  have hb := hb.sub s2
  have hF := hF.sub s2
  have G := G.trans s2.agr
  have hb_3 := hb_3.sub s2
  have hb_4 := hb_4.sub s2
  have szD := Nat.le_trans szD s2.size
  refine RD.take 0 rfl (by kernel_rfl) (by kernel_rfl) (by kernel_rfl) (fun w' s' => .move rfl) rfl rfl ?_
  refine RD.take 1 rfl (by kernel_rfl) (by kernel_rfl) (by kernel_rfl) (fun w' s' => .nilCheck rfl) rfl rfl ?_
  refine RD.take 2 rfl (by kernel_rfl) (by kernel_rfl) (by kernel_rfl) (fun w' s' => .field0 fo38_1 rfl) rfl rfl ?_
  refine RD.take 3 rfl (by kernel_rfl) (by kernel_rfl) (by kernel_rfl) (fun w' s' => .load1 sh35 rfl ((hb.step s' (fun e => e.elim (fun e => e.elim) (fun e => Nat.not_le.2 ltD_b e))).cell rfl)) rfl rfl ?_
  refine RD.take 4 rfl (by kernel_rfl) (by kernel_rfl) (by kernel_rfl) (fun w' s' => .loadR ([.int .i64 o.box, .int .i64 o.kind, .int .i64 o.a, .int .i64 o.b]) sh40 rfl (hb_3.step s' (fun e => e.elim (fun e => e.elim) (fun e => Nat.not_le.2 ltD_b_3 e))).row rfl) rfl rfl ?_
  refine RD.all [5, 9] (by kernel_rfl) rfl (RDs.cons rfl ?_ (RDs.cons rfl ?_ (RDs.nil)))
  ·
    refine RL.call rfl ok64 (c_pairs m.tab p.a2 p.c2 _ rfl hs hl200 hc o hok w1 M hF) rfl rfl ?_
    rintro _ w3 ⟨s4, a', c', M', rfl, hc', hF', hup⟩
    have d_hF'_b := upNe hup hn hb.lt
    have d_hF'_b_3 := upNe hup d_hF_b_3 hb_3.lt
    have d_hF'_b_4 := upNe hup d_hF_b_4 hb_4.lt
    have hup := hup.le G.size
    have hb := hb.sub s4
    have hF := hF.sub s4
    have G := G.trans s4.agr
    have hb_3 := hb_3.sub s4
    have hb_4 := hb_4.sub s4
    have szD := Nat.le_trans szD s4.size
    refine RD.back s4.agr ?_
    refine RD.take 6 rfl (by kernel_rfl) (by kernel_rfl) (by kernel_rfl) (fun w' s' => .move rfl) rfl rfl ?_
    refine RD.take 7 rfl (by kernel_rfl) (by kernel_rfl) (by kernel_rfl) (fun w' s' => .extract rfl rfl) rfl rfl ?_
    refine RD.take 8 rfl (by kernel_rfl) (by kernel_rfl) (by kernel_rfl) (fun w' s' => .extract rfl rfl) rfl rfl ?_
    refine RD.all [9] (by kernel_rfl) rfl (RDs.cons rfl ?_ (RDs.nil))
    refine RL.alloc ze43 rfl rfl (fun b_6 w_6 e_6 z_6 hb_6 s_6 => ?_)
    have fr_b_6 : w_4.heap.size ≤ b_6 := by rw [e_6]; exact szD
    have n__6 := hb.ne e_6
    have n_3__6 := hb_3.ne e_6
    have n_4__6 := hb_4.ne e_6
    have d_hF'_b_6 := hF'.neNew e_6
    have hb := hb.sub s_6
    have geG_6 := agLe G e_6
    have G := G.trans s_6.agr
    have hb_3 := hb_3.sub s_6
    have hb_4 := hb_4.sub s_6
    have szD := Nat.le_trans szD s_6.size
    have hF' := hF'.sub s_6
    refine RD.back s_6.agr ?_
    refine RD.take 10 rfl (by kernel_rfl) (by kernel_rfl) (by kernel_rfl) (fun w' s' => .assign rfl) rfl rfl ?_
    refine RD.all [11] (by kernel_rfl) rfl (RDs.cons rfl ?_ (RDs.nil))
    refine RL.store sh43 rfl rfl rfl hb_6 (by exact Nat.le_of_ble_eq_true rfl) (by rfl) rfl (fun w5 z5 hb_6 a5 => ?_)
    have hb := hb.upd a5 n__6
    have G := agNew G a5 geG_6
    have hb_3 := hb_3.upd a5 n_3__6
    have hb_4 := hb_4.upd a5 n_4__6
    have szD := Nat.le_trans szD a5.size
    have hF' := hF'.updD a5 d_hF'_b_6
    have hb_6 : Has w5 b_6 ([.int .i64 (pairsM m.tab o).2.e, .int .i64 (pairsM m.tab o).2.a, .int .i64 (pairsM m.tab o).2.b]) _ := hb_6.now (by kernel_rfl)
    refine RD.backW rfl (a5.mono fun k _ e => e ▸ (.inr fr_b_6)) ?_
    refine RD.done (by kernel_rfl) (RC.back ?_)
    refine RC.seq ?_
    refine RC.region rfl ?_
    refine RL.ev (.move rfl) rfl rfl ?_
    refine RL.ev (.move rfl) rfl rfl ?_
    refine RL.ev (.nilCheck rfl) rfl rfl ?_
    refine RL.ev (.field0 fo38_1 rfl) rfl rfl ?_
    refine RL.store sh35 rfl rfl rfl hb (by exact Nat.le_of_ble_eq_true rfl) (by rfl) rfl (fun w6 z6 hb a6 => ?_)
    have G := G.trans a6
    have hb_3 := hb_3.upd a6 n__3.symm
    have hb_4 := hb_4.upd a6 n__4.symm
    have hF' := hF'.updD a6 d_hF'_b
    have hb_6 := hb_6.upd a6 n__6.symm
    have hb : Has w6 b ([.slice p.a1 m.map.length p.c1, .slice a' (pairsM m.tab o).1.length c', .slice p.a3 m.row.length p.c3, .slice p.a4 m.heap.length p.c4]) _ := hb
    refine RL.nil (RC.back ?_)
    refine RC.seq ?_
    refine RC.region rfl ?_
    refine RL.ev (.loadR ([.int .i64 (pairsM m.tab o).2.e, .int .i64 (pairsM m.tab o).2.a, .int .i64 (pairsM m.tab o).2.b]) sh43 rfl hb_6.row rfl) rfl rfl ?_
    refine RL.store sh43 rfl rfl rfl hb_4 (by exact Nat.le_of_ble_eq_true rfl) (by rfl) rfl (fun w7 z7 hb_4 a7 => ?_)
    have hb := hb.upd a7 n__4
    have G := agNew G a7 geG_4
    have hb_3 := hb_3.upd a7 n_3__4
    have hF' := hF'.updD a7 d_hF'_b_4
    have hb_6 := hb_6.upd a7 n_4__6.symm
    have hb_4 : Has w7 b_4 ([.int .i64 (pairsM m.tab o).2.e, .int .i64 (pairsM m.tab o).2.a, .int .i64 (pairsM m.tab o).2.b]) _ := hb_4.now (by kernel_rfl)
    refine RL.nil (RC.back ?_)
    refine RC.done (rs := [.cell 4 43]) (vs := [_]) rfl rfl ⟨⟨_, rfl, .inr ⟨[.int .i64 (pairsM m.tab o).2.e, .int .i64 (pairsM m.tab o).2.a, .int .i64 (pairsM m.tab o).2.b], sh43, hb_4.row, rfl⟩⟩, trivial⟩ ?_
    -- end 1
    exact ⟨a', c', M', rfl, hc', hF', hup, hb, G⟩
  ·
    refine RL.alloc ze43 rfl rfl (fun b_6 w_6 e_6 z_6 hb_6 s_6 => ?_)
    have fr_b_6 : w_4.heap.size ≤ b_6 := by rw [e_6]; exact szD
    have n__6 := hb.ne e_6
    have n_3__6 := hb_3.ne e_6
    have n_4__6 := hb_4.ne e_6
    have d_hF_b_6 := hF.neNew e_6
    have hb := hb.sub s_6
    have hF := hF.sub s_6
    have geG_6 := agLe G e_6
    have G := G.trans s_6.agr
    have hb_3 := hb_3.sub s_6
    have hb_4 := hb_4.sub s_6
    have szD := Nat.le_trans szD s_6.size
    refine RD.back s_6.agr ?_
    refine RD.all [5] (by kernel_rfl) rfl (RDs.cons rfl ?_ (RDs.nil))
    refine RL.call rfl ok64 (c_pairs m.tab p.a2 p.c2 _ rfl hs hl200 hc o hok w_6 M hF) rfl rfl ?_
    rintro _ w8 ⟨s9, a', c', M', rfl, hc', hF', hup⟩
    have d_hF'_b := upNe hup hn hb.lt
    have d_hF'_b_3 := upNe hup d_hF_b_3 hb_3.lt
    have d_hF'_b_4 := upNe hup d_hF_b_4 hb_4.lt
    have d_hF'_b_6 := upNe hup d_hF_b_6 hb_6.lt
    have hup := hup.le G.size
    have hb := hb.sub s9
    have hF := hF.sub s9
    have G := G.trans s9.agr
    have hb_3 := hb_3.sub s9
    have hb_4 := hb_4.sub s9
    have szD := Nat.le_trans szD s9.size
    have hb_6 := hb_6.sub s9
    refine RD.back s9.agr ?_
    refine RD.take 6 rfl (by kernel_rfl) (by kernel_rfl) (by kernel_rfl) (fun w' s' => .move rfl) rfl rfl ?_
    refine RD.take 7 rfl (by kernel_rfl) (by kernel_rfl) (by kernel_rfl) (fun w' s' => .extract rfl rfl) rfl rfl ?_
    refine RD.take 8 rfl (by kernel_rfl) (by kernel_rfl) (by kernel_rfl) (fun w' s' => .extract rfl rfl) rfl rfl ?_
    refine RD.take 10 rfl (by kernel_rfl) (by kernel_rfl) (by kernel_rfl) (fun w' s' => .assign rfl) rfl rfl ?_
    refine RD.all [11] (by kernel_rfl) rfl (RDs.cons rfl ?_ (RDs.nil))
    refine RL.store sh43 rfl rfl rfl hb_6 (by exact Nat.le_of_ble_eq_true rfl) (by rfl) rfl (fun w10 z10 hb_6 a10 => ?_)
    have hb := hb.upd a10 n__6
    have G := agNew G a10 geG_6
    have hb_3 := hb_3.upd a10 n_3__6
    have hb_4 := hb_4.upd a10 n_4__6
    have szD := Nat.le_trans szD a10.size
    have hF' := hF'.updD a10 d_hF'_b_6
    have hb_6 : Has w10 b_6 ([.int .i64 (pairsM m.tab o).2.e, .int .i64 (pairsM m.tab o).2.a, .int .i64 (pairsM m.tab o).2.b]) _ := hb_6.now (by kernel_rfl)
    refine RD.backW rfl (a10.mono fun k _ e => e ▸ (.inr fr_b_6)) ?_
    refine RD.done (by kernel_rfl) (RC.back ?_)
    refine RC.seq ?_
    refine RC.region rfl ?_
    refine RL.ev (.move rfl) rfl rfl ?_
    refine RL.ev (.move rfl) rfl rfl ?_
    refine RL.ev (.nilCheck rfl) rfl rfl ?_
    refine RL.ev (.field0 fo38_1 rfl) rfl rfl ?_
    refine RL.store sh35 rfl rfl rfl hb (by exact Nat.le_of_ble_eq_true rfl) (by rfl) rfl (fun w11 z11 hb a11 => ?_)
    have G := G.trans a11
    have hb_3 := hb_3.upd a11 n__3.symm
    have hb_4 := hb_4.upd a11 n__4.symm
    have hb_6 := hb_6.upd a11 n__6.symm
    have hF' := hF'.updD a11 d_hF'_b
    have hb : Has w11 b ([.slice p.a1 m.map.length p.c1, .slice a' (pairsM m.tab o).1.length c', .slice p.a3 m.row.length p.c3, .slice p.a4 m.heap.length p.c4]) _ := hb
    refine RL.nil (RC.back ?_)
    refine RC.seq ?_
    refine RC.region rfl ?_
    refine RL.ev (.loadR ([.int .i64 (pairsM m.tab o).2.e, .int .i64 (pairsM m.tab o).2.a, .int .i64 (pairsM m.tab o).2.b]) sh43 rfl hb_6.row rfl) rfl rfl ?_
    refine RL.store sh43 rfl rfl rfl hb_4 (by exact Nat.le_of_ble_eq_true rfl) (by rfl) rfl (fun w12 z12 hb_4 a12 => ?_)
    have hb := hb.upd a12 n__4
    have G := agNew G a12 geG_4
    have hb_3 := hb_3.upd a12 n_3__4
    have hb_6 := hb_6.upd a12 n_4__6.symm
    have hF' := hF'.updD a12 d_hF'_b_4
    have hb_4 : Has w12 b_4 ([.int .i64 (pairsM m.tab o).2.e, .int .i64 (pairsM m.tab o).2.a, .int .i64 (pairsM m.tab o).2.b]) _ := hb_4.now (by kernel_rfl)
    refine RL.nil (RC.back ?_)
    refine RC.done (rs := [.cell 4 43]) (vs := [_]) rfl rfl ⟨⟨_, rfl, .inr ⟨[.int .i64 (pairsM m.tab o).2.e, .int .i64 (pairsM m.tab o).2.a, .int .i64 (pairsM m.tab o).2.b], sh43, hb_4.row, rfl⟩⟩, trivial⟩ ?_
    -- end 2
    exact ⟨a', c', M', rfl, hc', hF', hup, hb, G⟩
theorem c_box3 (b : Nat) (p : Ph) (m : Mo) (hs : True) (hl200 : m.row.length ≤ 200) (hc : m.row.length ≤ p.c3) (o : OpT) (hok : okP o) (w : World) (M : Nat → Prop) (hF : Ft M (fun u => Sl u p.a3 1 (m.row.map fun x => [i6 x])) w) (hb : Has w b (moC p m) 38) (hn : ∀ k, M k → k ≠ b) :
    FC Try.prog 66 [.pointer (some ⟨b, 0, none⟩), .agg o.cells.toArray] w (fun u w' => ∃ a' c' M', u = .agg (rowM m.row o).2.cells.toArray ∧ (rowM m.row o).1.length ≤ c' ∧ Ft M' (fun u => Sl u a' 1 ((rowM m.row o).1.map fun x => [i6 x])) w' ∧ Up M w M' ∧ Has w' b [.slice p.a1 m.map.length p.c1, .slice p.a2 m.tab.length p.c2, .slice a' (rowM m.row o).1.length c', .slice p.a4 m.heap.length p.c4] 38 ∧ Agr (· = b) w w') := by
  have G : Agr (· = b) w w := Agr.refl _ _
  refine FC.intro Try.func66 rfl Try.ntmps66 rfl ?_
  have ltb := hb.lt
  refine RC.seq ?_
  refine RC.region rfl ?_
  refine RL.box rfl rfl rfl (fun b_3 w_3 e_3 z_3 hb_3 s_3 => ?_)
  have n__3 := hb.ne e_3
  have d_hF_b_3 := hF.neNew e_3
  have hb := hb.sub s_3
  have hF := hF.sub s_3
  have geG_3 := agLe G e_3
  have G := G.trans s_3.agr
  have hb_3 : Has w_3 b_3 ([.int .i64 o.box, .int .i64 o.kind, .int .i64 o.a, .int .i64 o.b]) _ := hb_3
  refine RL.alloc ze43 rfl rfl (fun b_4 w_4 e_4 z_4 hb_4 s_4 => ?_)
  have n__4 := hb.ne e_4
  have n_3__4 := hb_3.ne e_4
  have d_hF_b_4 := hF.neNew e_4
  have hb := hb.sub s_4
  have hF := hF.sub s_4
  have geG_4 := agLe G e_4
  have G := G.trans s_4.agr
  have hb_3 := hb_3.sub s_4
  refine RL.nil (RC.back ?_)
  refine RC.seq ?_
  refine RC.drawD (fun k => False) [11] w_4.heap.size 12 rfl rfl mxo (fun w1 s2 => ?_)
  have ltD_b := hb.lt
  have ltD_hF := fun k hk => (hF.ge k hk).2
  have ltD_b_3 := hb_3.lt
  have ltD_b_4 := hb_4.lt
  have szD := Nat.le_refl w_4.heap.size
  have hb := hb.sub s2
  have hF := hF.sub s2
  have G := G.trans s2.agr
  have hb_3 := hb_3.sub s2
  have hb_4 := hb_4.sub s2
  have szD := Nat.le_trans szD s2.size
  refine RD.take 0 rfl (by kernel_rfl) (by kernel_rfl) (by kernel_rfl) (fun w' s' => .move rfl) rfl rfl ?_
  refine RD.take 1 rfl (by kernel_rfl) (by kernel_rfl) (by kernel_rfl) (fun w' s' => .nilCheck rfl) rfl rfl ?_
  refine RD.take 2 rfl (by kernel_rfl) (by kernel_rfl) (by kernel_rfl) (fun w' s' => .field0 fo38_2 rfl) rfl rfl ?_
  refine RD.take 3 rfl (by kernel_rfl) (by kernel_rfl) (by kernel_rfl) (fun w' s' => .load1 sh36 rfl ((hb.step s' (fun e => e.elim (fun e => e.elim) (fun e => Nat.not_le.2 ltD_b e))).cell rfl)) rfl rfl ?_
  refine RD.take 4 rfl (by kernel_rfl) (by kernel_rfl) (by kernel_rfl) (fun w' s' => .loadR ([.int .i64 o.box, .int .i64 o.kind, .int .i64 o.a, .int .i64 o.b]) sh40 rfl (hb_3.step s' (fun e => e.elim (fun e => e.elim) (fun e => Nat.not_le.2 ltD_b_3 e))).row rfl) rfl rfl ?_
  refine RD.all [5, 9] (by kernel_rfl) rfl (RDs.cons rfl ?_ (RDs.cons rfl ?_ (RDs.nil)))
  ·
    refine RL.call rfl ok67 (c_row m.row p.a3 p.c3 _ rfl hl200 hc o hok w1 M hF) rfl rfl ?_
    rintro _ w3 ⟨s4, a', c', M', rfl, hc', hF', hup⟩
    have d_hF'_b := upNe hup hn hb.lt
    have d_hF'_b_3 := upNe hup d_hF_b_3 hb_3.lt
    have d_hF'_b_4 := upNe hup d_hF_b_4 hb_4.lt
    have hup := hup.le G.size
    have hb := hb.sub s4
    have hF := hF.sub s4
    have G := G.trans s4.agr
    have hb_3 := hb_3.sub s4
    have hb_4 := hb_4.sub s4
    have szD := Nat.le_trans szD s4.size
    refine RD.back s4.agr ?_
    refine RD.take 6 rfl (by kernel_rfl) (by kernel_rfl) (by kernel_rfl) (fun w' s' => .move rfl) rfl rfl ?_
    refine RD.take 7 rfl (by kernel_rfl) (by kernel_rfl) (by kernel_rfl) (fun w' s' => .extract rfl rfl) rfl rfl ?_
    refine RD.take 8 rfl (by kernel_rfl) (by kernel_rfl) (by kernel_rfl) (fun w' s' => .extract rfl rfl) rfl rfl ?_
    refine RD.all [9] (by kernel_rfl) rfl (RDs.cons rfl ?_ (RDs.nil))
    refine RL.alloc ze43 rfl rfl (fun b_6 w_6 e_6 z_6 hb_6 s_6 => ?_)
    have fr_b_6 : w_4.heap.size ≤ b_6 := by rw [e_6]; exact szD
    have n__6 := hb.ne e_6
    have n_3__6 := hb_3.ne e_6
    have n_4__6 := hb_4.ne e_6
    have d_hF'_b_6 := hF'.neNew e_6
    have hb := hb.sub s_6
    have geG_6 := agLe G e_6
    have G := G.trans s_6.agr
    have hb_3 := hb_3.sub s_6
    have hb_4 := hb_4.sub s_6
    have szD := Nat.le_trans szD s_6.size
    have hF' := hF'.sub s_6
    refine RD.back s_6.agr ?_
    refine RD.take 10 rfl (by kernel_rfl) (by kernel_rfl) (by kernel_rfl) (fun w' s' => .assign rfl) rfl rfl ?_
    refine RD.all [11] (by kernel_rfl) rfl (RDs.cons rfl ?_ (RDs.nil))
    refine RL.store sh43 rfl rfl rfl hb_6 (by exact Nat.le_of_ble_eq_true rfl) (by rfl) rfl (fun w5 z5 hb_6 a5 => ?_)
    have hb := hb.upd a5 n__6
    have G := agNew G a5 geG_6
    have hb_3 := hb_3.upd a5 n_3__6
    have hb_4 := hb_4.upd a5 n_4__6
    have szD := Nat.le_trans szD a5.size
    have hF' := hF'.updD a5 d_hF'_b_6
    have hb_6 : Has w5 b_6 ([.int .i64 (rowM m.row o).2.e, .int .i64 (rowM m.row o).2.a, .int .i64 (rowM m.row o).2.b]) _ := hb_6.now (by kernel_rfl)
    refine RD.backW rfl (a5.mono fun k _ e => e ▸ (.inr fr_b_6)) ?_
    refine RD.done (by kernel_rfl) (RC.back ?_)
    refine RC.seq ?_
    refine RC.region rfl ?_
    refine RL.ev (.move rfl) rfl rfl ?_
    refine RL.ev (.move rfl) rfl rfl ?_
    refine RL.ev (.nilCheck rfl) rfl rfl ?_
    refine RL.ev (.field0 fo38_2 rfl) rfl rfl ?_
    refine RL.store sh36 rfl rfl rfl hb (by exact Nat.le_of_ble_eq_true rfl) (by rfl) rfl (fun w6 z6 hb a6 => ?_)
    have G := G.trans a6
    have hb_3 := hb_3.upd a6 n__3.symm
    have hb_4 := hb_4.upd a6 n__4.symm
    have hF' := hF'.updD a6 d_hF'_b
    have hb_6 := hb_6.upd a6 n__6.symm
    have hb : Has w6 b ([.slice p.a1 m.map.length p.c1, .slice p.a2 m.tab.length p.c2, .slice a' (rowM m.row o).1.length c', .slice p.a4 m.heap.length p.c4]) _ := hb
    refine RL.nil (RC.back ?_)
    refine RC.seq ?_
    refine RC.region rfl ?_
    refine RL.ev (.loadR ([.int .i64 (rowM m.row o).2.e, .int .i64 (rowM m.row o).2.a, .int .i64 (rowM m.row o).2.b]) sh43 rfl hb_6.row rfl) rfl rfl ?_
    refine RL.store sh43 rfl rfl rfl hb_4 (by exact Nat.le_of_ble_eq_true rfl) (by rfl) rfl (fun w7 z7 hb_4 a7 => ?_)
    have hb := hb.upd a7 n__4
    have G := agNew G a7 geG_4
    have hb_3 := hb_3.upd a7 n_3__4
    have hF' := hF'.updD a7 d_hF'_b_4
    have hb_6 := hb_6.upd a7 n_4__6.symm
    have hb_4 : Has w7 b_4 ([.int .i64 (rowM m.row o).2.e, .int .i64 (rowM m.row o).2.a, .int .i64 (rowM m.row o).2.b]) _ := hb_4.now (by kernel_rfl)
    refine RL.nil (RC.back ?_)
    refine RC.done (rs := [.cell 4 43]) (vs := [_]) rfl rfl ⟨⟨_, rfl, .inr ⟨[.int .i64 (rowM m.row o).2.e, .int .i64 (rowM m.row o).2.a, .int .i64 (rowM m.row o).2.b], sh43, hb_4.row, rfl⟩⟩, trivial⟩ ?_
    -- end 1
    exact ⟨a', c', M', rfl, hc', hF', hup, hb, G⟩
  ·
    refine RL.alloc ze43 rfl rfl (fun b_6 w_6 e_6 z_6 hb_6 s_6 => ?_)
    have fr_b_6 : w_4.heap.size ≤ b_6 := by rw [e_6]; exact szD
    have n__6 := hb.ne e_6
    have n_3__6 := hb_3.ne e_6
    have n_4__6 := hb_4.ne e_6
    have d_hF_b_6 := hF.neNew e_6
    have hb := hb.sub s_6
    have hF := hF.sub s_6
    have geG_6 := agLe G e_6
    have G := G.trans s_6.agr
    have hb_3 := hb_3.sub s_6
    have hb_4 := hb_4.sub s_6
    have szD := Nat.le_trans szD s_6.size
    refine RD.back s_6.agr ?_
    refine RD.all [5] (by kernel_rfl) rfl (RDs.cons rfl ?_ (RDs.nil))
    refine RL.call rfl ok67 (c_row m.row p.a3 p.c3 _ rfl hl200 hc o hok w_6 M hF) rfl rfl ?_
    rintro _ w8 ⟨s9, a', c', M', rfl, hc', hF', hup⟩
    have d_hF'_b := upNe hup hn hb.lt
    have d_hF'_b_3 := upNe hup d_hF_b_3 hb_3.lt
    have d_hF'_b_4 := upNe hup d_hF_b_4 hb_4.lt
    have d_hF'_b_6 := upNe hup d_hF_b_6 hb_6.lt
    have hup := hup.le G.size
    have hb := hb.sub s9
    have hF := hF.sub s9
    have G := G.trans s9.agr
    have hb_3 := hb_3.sub s9
    have hb_4 := hb_4.sub s9
    have szD := Nat.le_trans szD s9.size
    have hb_6 := hb_6.sub s9
    refine RD.back s9.agr ?_
    refine RD.take 6 rfl (by kernel_rfl) (by kernel_rfl) (by kernel_rfl) (fun w' s' => .move rfl) rfl rfl ?_
    refine RD.take 7 rfl (by kernel_rfl) (by kernel_rfl) (by kernel_rfl) (fun w' s' => .extract rfl rfl) rfl rfl ?_
    refine RD.take 8 rfl (by kernel_rfl) (by kernel_rfl) (by kernel_rfl) (fun w' s' => .extract rfl rfl) rfl rfl ?_
    refine RD.take 10 rfl (by kernel_rfl) (by kernel_rfl) (by kernel_rfl) (fun w' s' => .assign rfl) rfl rfl ?_
    refine RD.all [11] (by kernel_rfl) rfl (RDs.cons rfl ?_ (RDs.nil))
    refine RL.store sh43 rfl rfl rfl hb_6 (by exact Nat.le_of_ble_eq_true rfl) (by rfl) rfl (fun w10 z10 hb_6 a10 => ?_)
    have hb := hb.upd a10 n__6
    have G := agNew G a10 geG_6
    have hb_3 := hb_3.upd a10 n_3__6
    have hb_4 := hb_4.upd a10 n_4__6
    have szD := Nat.le_trans szD a10.size
    have hF' := hF'.updD a10 d_hF'_b_6
    have hb_6 : Has w10 b_6 ([.int .i64 (rowM m.row o).2.e, .int .i64 (rowM m.row o).2.a, .int .i64 (rowM m.row o).2.b]) _ := hb_6.now (by kernel_rfl)
    refine RD.backW rfl (a10.mono fun k _ e => e ▸ (.inr fr_b_6)) ?_
    refine RD.done (by kernel_rfl) (RC.back ?_)
    refine RC.seq ?_
    refine RC.region rfl ?_
    refine RL.ev (.move rfl) rfl rfl ?_
    refine RL.ev (.move rfl) rfl rfl ?_
    refine RL.ev (.nilCheck rfl) rfl rfl ?_
    refine RL.ev (.field0 fo38_2 rfl) rfl rfl ?_
    refine RL.store sh36 rfl rfl rfl hb (by exact Nat.le_of_ble_eq_true rfl) (by rfl) rfl (fun w11 z11 hb a11 => ?_)
    have G := G.trans a11
    have hb_3 := hb_3.upd a11 n__3.symm
    have hb_4 := hb_4.upd a11 n__4.symm
    have hb_6 := hb_6.upd a11 n__6.symm
    have hF' := hF'.updD a11 d_hF'_b
    have hb : Has w11 b ([.slice p.a1 m.map.length p.c1, .slice p.a2 m.tab.length p.c2, .slice a' (rowM m.row o).1.length c', .slice p.a4 m.heap.length p.c4]) _ := hb
    refine RL.nil (RC.back ?_)
    refine RC.seq ?_
    refine RC.region rfl ?_
    refine RL.ev (.loadR ([.int .i64 (rowM m.row o).2.e, .int .i64 (rowM m.row o).2.a, .int .i64 (rowM m.row o).2.b]) sh43 rfl hb_6.row rfl) rfl rfl ?_
    refine RL.store sh43 rfl rfl rfl hb_4 (by exact Nat.le_of_ble_eq_true rfl) (by rfl) rfl (fun w12 z12 hb_4 a12 => ?_)
    have hb := hb.upd a12 n__4
    have G := agNew G a12 geG_4
    have hb_3 := hb_3.upd a12 n_3__4
    have hb_6 := hb_6.upd a12 n_4__6.symm
    have hF' := hF'.updD a12 d_hF'_b_4
    have hb_4 : Has w12 b_4 ([.int .i64 (rowM m.row o).2.e, .int .i64 (rowM m.row o).2.a, .int .i64 (rowM m.row o).2.b]) _ := hb_4.now (by kernel_rfl)
    refine RL.nil (RC.back ?_)
    refine RC.done (rs := [.cell 4 43]) (vs := [_]) rfl rfl ⟨⟨_, rfl, .inr ⟨[.int .i64 (rowM m.row o).2.e, .int .i64 (rowM m.row o).2.a, .int .i64 (rowM m.row o).2.b], sh43, hb_4.row, rfl⟩⟩, trivial⟩ ?_
    -- end 2
    exact ⟨a', c', M', rfl, hc', hF', hup, hb, G⟩
theorem c_box4 (b : Nat) (p : Ph) (m : Mo) (hs : SrtH m.heap) (hl200 : m.heap.length ≤ 200) (hc : m.heap.length ≤ p.c4) (o : OpT) (hok : okP o) (w : World) (M : Nat → Prop) (hF : Ft M (fun u => Sl u p.a4 2 (m.heap.map It.cells)) w) (hb : Has w b (moC p m) 38) (hn : ∀ k, M k → k ≠ b) :
    FC Try.prog 68 [.pointer (some ⟨b, 0, none⟩), .agg o.cells.toArray] w (fun u w' => ∃ a' c' M', u = .agg (heapM m.heap o).2.cells.toArray ∧ (heapM m.heap o).1.length ≤ c' ∧ Ft M' (fun u => Sl u a' 2 ((heapM m.heap o).1.map It.cells)) w' ∧ Up M w M' ∧ Has w' b [.slice p.a1 m.map.length p.c1, .slice p.a2 m.tab.length p.c2, .slice p.a3 m.row.length p.c3, .slice a' (heapM m.heap o).1.length c'] 38 ∧ Agr (· = b) w w') := by
  have G : Agr (· = b) w w := Agr.refl _ _
  refine FC.intro Try.func68 rfl Try.ntmps68 rfl ?_
  have ltb := hb.lt
  refine RC.seq ?_
  refine RC.region rfl ?_
  refine RL.box rfl rfl rfl (fun b_3 w_3 e_3 z_3 hb_3 s_3 => ?_)
  have n__3 := hb.ne e_3
  have d_hF_b_3 := hF.neNew e_3
  have hb := hb.sub s_3
  have hF := hF.sub s_3
  have geG_3 := agLe G e_3
  have G := G.trans s_3.agr
  have hb_3 : Has w_3 b_3 ([.int .i64 o.box, .int .i64 o.kind, .int .i64 o.a, .int .i64 o.b]) _ := hb_3
  refine RL.alloc ze43 rfl rfl (fun b_4 w_4 e_4 z_4 hb_4 s_4 => ?_)
  have n__4 := hb.ne e_4
  have n_3__4 := hb_3.ne e_4
  have d_hF_b_4 := hF.neNew e_4
  have hb := hb.sub s_4
  have hF := hF.sub s_4
  have geG_4 := agLe G e_4
  have G := G.trans s_4.agr
  have hb_3 := hb_3.sub s_4
  refine RL.nil (RC.back ?_)
  refine RC.seq ?_
  refine RC.drawD (fun k => False) [11] w_4.heap.size 12 rfl rfl mxo (fun w1 s2 => ?_)
  have ltD_b := hb.lt
  have ltD_hF := fun k hk => (hF.ge k hk).2
  have ltD_b_3 := hb_3.lt
  have ltD_b_4 := hb_4.lt
  have szD := Nat.le_refl w_4.heap.size
  have hb := hb.sub s2
  have hF := hF.sub s2
  have G := G.trans s2.agr
  have hb_3 := hb_3.sub s2
  have hb_4 := hb_4.sub s2
  have szD := Nat.le_trans szD s2.size
  refine RD.take 0 rfl (by kernel_rfl) (by kernel_rfl) (by kernel_rfl) (fun w' s' => .move rfl) rfl rfl ?_
  refine RD.take 1 rfl (by kernel_rfl) (by kernel_rfl) (by kernel_rfl) (fun w' s' => .nilCheck rfl) rfl rfl ?_
  refine RD.take 2 rfl (by kernel_rfl) (by kernel_rfl) (by kernel_rfl) (fun w' s' => .field0 fo38_3 rfl) rfl rfl ?_
  refine RD.take 3 rfl (by kernel_rfl) (by kernel_rfl) (by kernel_rfl) (fun w' s' => .load1 sh35 rfl ((hb.step s' (fun e => e.elim (fun e => e.elim) (fun e => Nat.not_le.2 ltD_b e))).cell rfl)) rfl rfl ?_
  refine RD.take 4 rfl (by kernel_rfl) (by kernel_rfl) (by kernel_rfl) (fun w' s' => .loadR ([.int .i64 o.box, .int .i64 o.kind, .int .i64 o.a, .int .i64 o.b]) sh40 rfl (hb_3.step s' (fun e => e.elim (fun e => e.elim) (fun e => Nat.not_le.2 ltD_b_3 e))).row rfl) rfl rfl ?_
  refine RD.all [5, 9] (by kernel_rfl) rfl (RDs.cons rfl ?_ (RDs.cons rfl ?_ (RDs.nil)))
  ·
    refine RL.call rfl ok69 (c_heap m.heap p.a4 p.c4 _ rfl hs hl200 hc o hok w1 M hF) rfl rfl ?_
    rintro _ w3 ⟨s4, a', c', M', rfl, hc', hF', hup⟩
    have d_hF'_b := upNe hup hn hb.lt
    have d_hF'_b_3 := upNe hup d_hF_b_3 hb_3.lt
    have d_hF'_b_4 := upNe hup d_hF_b_4 hb_4.lt
    have hup := hup.le G.size
    have hb := hb.sub s4
    have hF := hF.sub s4
    have G := G.trans s4.agr
    have hb_3 := hb_3.sub s4
    have hb_4 := hb_4.sub s4
    have szD := Nat.le_trans szD s4.size
    refine RD.back s4.agr ?_
    refine RD.take 6 rfl (by kernel_rfl) (by kernel_rfl) (by kernel_rfl) (fun w' s' => .move rfl) rfl rfl ?_
    refine RD.take 7 rfl (by kernel_rfl) (by kernel_rfl) (by kernel_rfl) (fun w' s' => .extract rfl rfl) rfl rfl ?_
    refine RD.take 8 rfl (by kernel_rfl) (by kernel_rfl) (by kernel_rfl) (fun w' s' => .extract rfl rfl) rfl rfl ?_
    refine RD.all [9] (by kernel_rfl) rfl (RDs.cons rfl ?_ (RDs.nil))
    refine RL.alloc ze43 rfl rfl (fun b_6 w_6 e_6 z_6 hb_6 s_6 => ?_)
    have fr_b_6 : w_4.heap.size ≤ b_6 := by rw [e_6]; exact szD
    have n__6 := hb.ne e_6
    have n_3__6 := hb_3.ne e_6
    have n_4__6 := hb_4.ne e_6
    have d_hF'_b_6 := hF'.neNew e_6
    have hb := hb.sub s_6
    have geG_6 := agLe G e_6
    have G := G.trans s_6.agr
    have hb_3 := hb_3.sub s_6
    have hb_4 := hb_4.sub s_6
    have szD := Nat.le_trans szD s_6.size
    have hF' := hF'.sub s_6
    refine RD.back s_6.agr ?_
    refine RD.take 10 rfl (by kernel_rfl) (by kernel_rfl) (by kernel_rfl) (fun w' s' => .assign rfl) rfl rfl ?_
    refine RD.all [11] (by kernel_rfl) rfl (RDs.cons rfl ?_ (RDs.nil))
    refine RL.store sh43 rfl rfl rfl hb_6 (by exact Nat.le_of_ble_eq_true rfl) (by rfl) rfl (fun w5 z5 hb_6 a5 => ?_)
    have hb := hb.upd a5 n__6
    have G := agNew G a5 geG_6
    have hb_3 := hb_3.upd a5 n_3__6
    have hb_4 := hb_4.upd a5 n_4__6
    have szD := Nat.le_trans szD a5.size
    have hF' := hF'.updD a5 d_hF'_b_6
    have hb_6 : Has w5 b_6 ([.int .i64 (heapM m.heap o).2.e, .int .i64 (heapM m.heap o).2.a, .int .i64 (heapM m.heap o).2.b]) _ := hb_6.now (by kernel_rfl)
    refine RD.backW rfl (a5.mono fun k _ e => e ▸ (.inr fr_b_6)) ?_
    refine RD.done (by kernel_rfl) (RC.back ?_)
    refine RC.seq ?_
    refine RC.region rfl ?_
    refine RL.ev (.move rfl) rfl rfl ?_
    refine RL.ev (.move rfl) rfl rfl ?_
    refine RL.ev (.nilCheck rfl) rfl rfl ?_
    refine RL.ev (.field0 fo38_3 rfl) rfl rfl ?_
    refine RL.store sh35 rfl rfl rfl hb (by exact Nat.le_of_ble_eq_true rfl) (by rfl) rfl (fun w6 z6 hb a6 => ?_)
    have G := G.trans a6
    have hb_3 := hb_3.upd a6 n__3.symm
    have hb_4 := hb_4.upd a6 n__4.symm
    have hF' := hF'.updD a6 d_hF'_b
    have hb_6 := hb_6.upd a6 n__6.symm
    have hb : Has w6 b ([.slice p.a1 m.map.length p.c1, .slice p.a2 m.tab.length p.c2, .slice p.a3 m.row.length p.c3, .slice a' (heapM m.heap o).1.length c']) _ := hb
    refine RL.nil (RC.back ?_)
    refine RC.seq ?_
    refine RC.region rfl ?_
    refine RL.ev (.loadR ([.int .i64 (heapM m.heap o).2.e, .int .i64 (heapM m.heap o).2.a, .int .i64 (heapM m.heap o).2.b]) sh43 rfl hb_6.row rfl) rfl rfl ?_
    refine RL.store sh43 rfl rfl rfl hb_4 (by exact Nat.le_of_ble_eq_true rfl) (by rfl) rfl (fun w7 z7 hb_4 a7 => ?_)
    have hb := hb.upd a7 n__4
    have G := agNew G a7 geG_4
    have hb_3 := hb_3.upd a7 n_3__4
    have hF' := hF'.updD a7 d_hF'_b_4
    have hb_6 := hb_6.upd a7 n_4__6.symm
    have hb_4 : Has w7 b_4 ([.int .i64 (heapM m.heap o).2.e, .int .i64 (heapM m.heap o).2.a, .int .i64 (heapM m.heap o).2.b]) _ := hb_4.now (by kernel_rfl)
    refine RL.nil (RC.back ?_)
    refine RC.done (rs := [.cell 4 43]) (vs := [_]) rfl rfl ⟨⟨_, rfl, .inr ⟨[.int .i64 (heapM m.heap o).2.e, .int .i64 (heapM m.heap o).2.a, .int .i64 (heapM m.heap o).2.b], sh43, hb_4.row, rfl⟩⟩, trivial⟩ ?_
    -- end 1
    exact ⟨a', c', M', rfl, hc', hF', hup, hb, G⟩
  ·
    refine RL.alloc ze43 rfl rfl (fun b_6 w_6 e_6 z_6 hb_6 s_6 => ?_)
    have fr_b_6 : w_4.heap.size ≤ b_6 := by rw [e_6]; exact szD
    have n__6 := hb.ne e_6
    have n_3__6 := hb_3.ne e_6
    have n_4__6 := hb_4.ne e_6
    have d_hF_b_6 := hF.neNew e_6
    have hb := hb.sub s_6
    have hF := hF.sub s_6
    have geG_6 := agLe G e_6
    have G := G.trans s_6.agr
    have hb_3 := hb_3.sub s_6
    have hb_4 := hb_4.sub s_6
    have szD := Nat.le_trans szD s_6.size
    refine RD.back s_6.agr ?_
    refine RD.all [5] (by kernel_rfl) rfl (RDs.cons rfl ?_ (RDs.nil))
    refine RL.call rfl ok69 (c_heap m.heap p.a4 p.c4 _ rfl hs hl200 hc o hok w_6 M hF) rfl rfl ?_
    rintro _ w8 ⟨s9, a', c', M', rfl, hc', hF', hup⟩
    have d_hF'_b := upNe hup hn hb.lt
    have d_hF'_b_3 := upNe hup d_hF_b_3 hb_3.lt
    have d_hF'_b_4 := upNe hup d_hF_b_4 hb_4.lt
    have d_hF'_b_6 := upNe hup d_hF_b_6 hb_6.lt
    have hup := hup.le G.size
    have hb := hb.sub s9
    have hF := hF.sub s9
    have G := G.trans s9.agr
    have hb_3 := hb_3.sub s9
    have hb_4 := hb_4.sub s9
    have szD := Nat.le_trans szD s9.size
    have hb_6 := hb_6.sub s9
    refine RD.back s9.agr ?_
    refine RD.take 6 rfl (by kernel_rfl) (by kernel_rfl) (by kernel_rfl) (fun w' s' => .move rfl) rfl rfl ?_
    refine RD.take 7 rfl (by kernel_rfl) (by kernel_rfl) (by kernel_rfl) (fun w' s' => .extract rfl rfl) rfl rfl ?_
    refine RD.take 8 rfl (by kernel_rfl) (by kernel_rfl) (by kernel_rfl) (fun w' s' => .extract rfl rfl) rfl rfl ?_
    refine RD.take 10 rfl (by kernel_rfl) (by kernel_rfl) (by kernel_rfl) (fun w' s' => .assign rfl) rfl rfl ?_
    refine RD.all [11] (by kernel_rfl) rfl (RDs.cons rfl ?_ (RDs.nil))
    refine RL.store sh43 rfl rfl rfl hb_6 (by exact Nat.le_of_ble_eq_true rfl) (by rfl) rfl (fun w10 z10 hb_6 a10 => ?_)
    have hb := hb.upd a10 n__6
    have G := agNew G a10 geG_6
    have hb_3 := hb_3.upd a10 n_3__6
    have hb_4 := hb_4.upd a10 n_4__6
    have szD := Nat.le_trans szD a10.size
    have hF' := hF'.updD a10 d_hF'_b_6
    have hb_6 : Has w10 b_6 ([.int .i64 (heapM m.heap o).2.e, .int .i64 (heapM m.heap o).2.a, .int .i64 (heapM m.heap o).2.b]) _ := hb_6.now (by kernel_rfl)
    refine RD.backW rfl (a10.mono fun k _ e => e ▸ (.inr fr_b_6)) ?_
    refine RD.done (by kernel_rfl) (RC.back ?_)
    refine RC.seq ?_
    refine RC.region rfl ?_
    refine RL.ev (.move rfl) rfl rfl ?_
    refine RL.ev (.move rfl) rfl rfl ?_
    refine RL.ev (.nilCheck rfl) rfl rfl ?_
    refine RL.ev (.field0 fo38_3 rfl) rfl rfl ?_
    refine RL.store sh35 rfl rfl rfl hb (by exact Nat.le_of_ble_eq_true rfl) (by rfl) rfl (fun w11 z11 hb a11 => ?_)
    have G := G.trans a11
    have hb_3 := hb_3.upd a11 n__3.symm
    have hb_4 := hb_4.upd a11 n__4.symm
    have hb_6 := hb_6.upd a11 n__6.symm
    have hF' := hF'.updD a11 d_hF'_b
    have hb : Has w11 b ([.slice p.a1 m.map.length p.c1, .slice p.a2 m.tab.length p.c2, .slice p.a3 m.row.length p.c3, .slice a' (heapM m.heap o).1.length c']) _ := hb
    refine RL.nil (RC.back ?_)
    refine RC.seq ?_
    refine RC.region rfl ?_
    refine RL.ev (.loadR ([.int .i64 (heapM m.heap o).2.e, .int .i64 (heapM m.heap o).2.a, .int .i64 (heapM m.heap o).2.b]) sh43 rfl hb_6.row rfl) rfl rfl ?_
    refine RL.store sh43 rfl rfl rfl hb_4 (by exact Nat.le_of_ble_eq_true rfl) (by rfl) rfl (fun w12 z12 hb_4 a12 => ?_)
    have hb := hb.upd a12 n__4
    have G := agNew G a12 geG_4
    have hb_3 := hb_3.upd a12 n_3__4
    have hb_6 := hb_6.upd a12 n_4__6.symm
    have hF' := hF'.updD a12 d_hF'_b_4
    have hb_4 : Has w12 b_4 ([.int .i64 (heapM m.heap o).2.e, .int .i64 (heapM m.heap o).2.a, .int .i64 (heapM m.heap o).2.b]) _ := hb_4.now (by kernel_rfl)
    refine RL.nil (RC.back ?_)
    refine RC.done (rs := [.cell 4 43]) (vs := [_]) rfl rfl ⟨⟨_, rfl, .inr ⟨[.int .i64 (heapM m.heap o).2.e, .int .i64 (heapM m.heap o).2.a, .int .i64 (heapM m.heap o).2.b], sh43, hb_4.row, rfl⟩⟩, trivial⟩ ?_
    -- end 2
    exact ⟨a', c', M', rfl, hc', hF', hup, hb, G⟩
end Go.Proofs.Ytlhnnleaiinjaaa
set_option linter.unusedVariables false
set_option linter.unusedSimpArgs false
namespace Go.Proofs.Ytlhnnleaiinjaaa
open Go Go.XL
def doM (m : Mo) (o : OpT) : Mo × ResT :=
  if o.box = 1 then ({ m with map := (pairsM m.map o).1 }, (pairsM m.map o).2)
  else if o.box = 2 then ({ m with tab := (pairsM m.tab o).1 }, (pairsM m.tab o).2)
  else if o.box = 3 then ({ m with row := (rowM m.row o).1 }, (rowM m.row o).2)
  else ({ m with heap := (heapM m.heap o).1 }, (heapM m.heap o).2)
theorem rowM_len {l : List Int} {o : OpT} (h : l.length ≤ 200) : (rowM l o).1.length ≤ 200 := by
  unfold rowM
  repeat' split
  all_goals simp <;> omega
theorem delL_le (l : List It) (key : Int) : (delL l key).length ≤ l.length := List.length_filter_le _ _
/-- the row behind an operation on keys -/
theorem pairsM_row (l : List It) (o : OpT) : (pairsM l o).1 = l ∨ (pairsM l o).1 = delL l o.a ∨ ((pairsM l o).1 = putL l o.a o.b ∧ (hasK l o.a = true ∨ l.length < 200 ∧ (o.box = 2 → crowdL l o.a < 9))) := by
  unfold pairsM
  dsimp only
  split
  · exact .inl rfl
  · split
    · split
      · exact .inl rfl
      · rename_i h
        refine .inr (.inr ⟨rfl, ?_⟩)
        cases hh : hasK l o.a with
        | true => exact .inl rfl
        | false =>
          rw [hh] at h
          simp only [true_and, not_or, not_and] at h
          exact .inr ⟨by omega, fun e => by have := h.2 e; omega⟩
    · split
      · split <;> (try split) <;> exact .inl rfl
      · split
        · exact .inl rfl
        · split
          · exact .inl rfl
          · split
            · exact .inr (.inl rfl)
            · exact .inl rfl
theorem putL_size {l : List It} (hs : Srt l) (key v : Int) : (putL l key v).length = if hasK l key then l.length else l.length + 1 := by
  obtain ⟨g0, g1, g2, g3⟩ := part_has (key := key) hs rfl
  cases hh : hasK l key with
  | true =>
    obtain ⟨x, hx, e⟩ := g0.1 hh
    have := lt_of_get hx
    rw [put_has hs hx e, List.length_append, List.length_cons, List.length_take, List.length_drop, if_pos rfl]
    omega
  | false =>
    rw [put_no hs rfl hh, List.length_append, List.length_cons, List.length_take, List.length_drop, if_neg (by simp)]
    omega
theorem pairsM_ok {l : List It} {o : OpT} (hs : Srt l) (hi : ∀ x ∈ l, inK x) (hl : l.length ≤ 200) (hok : okP o) : Srt (pairsM l o).1 ∧ (∀ x ∈ (pairsM l o).1, inK x) ∧ (pairsM l o).1.length ≤ 200 := by
  rcases pairsM_row l o with e | e | ⟨e, h⟩ <;> rw [e]
  · exact ⟨hs, hi, hl⟩
  · exact ⟨hs.sub, fun x hx => hi x (filter_sub hx), Nat.le_trans (delL_le l o.a) hl⟩
  · refine ⟨hs.put, fun x hx => ?_, ?_⟩
    · rcases putL_mem hx with rfl | hx
      · exact ⟨hok.2.1, hok.2.2.1⟩
      · exact hi x hx
    · rw [putL_size hs]
      rcases h with h | h
      · rw [h, if_pos rfl]; exact hl
      · split <;> omega
theorem crowdL_app (l r : List It) (k : Int) : crowdL (l ++ r) k = crowdL l k + crowdL r k := by
  unfold crowdL; rw [List.filter_append, List.length_append]
theorem crowdL_cons (x : It) (l : List It) (k : Int) : crowdL (x :: l) k = (if hashOf x.k = hashOf k then 1 else 0) + crowdL l k := by
  unfold crowdL
  rw [List.filter_cons]
  by_cases h : hashOf x.k = hashOf k
  · rw [if_pos (decide_eq_true h), if_pos h, List.length_cons]; omega
  · rw [if_neg (by rw [decide_eq_false h]; simp), if_neg h]; omega
theorem crowdL_hash {k k' : Int} (h : hashOf k = hashOf k') (l : List It) : crowdL l k = crowdL l k' := by unfold crowdL; rw [h]
theorem crowdL_del (l : List It) (key k : Int) : crowdL (delL l key) k ≤ crowdL l k := by
  unfold crowdL delL
  exact ((List.filter_sublist).filter _).length_le
theorem pairsM_crowd {l : List It} {o : OpT} (hs : Srt l) (hc : ∀ x ∈ l, crowdL l x.k ≤ 9) (hb : o.box = 2) : ∀ x ∈ (pairsM l o).1, crowdL (pairsM l o).1 x.k ≤ 9 := by
  rcases pairsM_row l o with e | e | ⟨e, h⟩ <;> rw [e]
  · exact hc
  · exact fun x hx => Nat.le_trans (crowdL_del l o.a x.k) (hc x (filter_sub hx))
  · obtain ⟨n, hn⟩ : ∃ n, n = (ltL o.a l).length := ⟨_, rfl⟩
    obtain ⟨g0, g1, g2, g3⟩ := part_has (key := o.a) hs hn
    cases hh : hasK l o.a with
    | true =>
      obtain ⟨y, hy, e⟩ := g0.1 hh
      have e1 := put_has hs hy e (v := o.b)
      have e2 := split_get hy
      rw [e1]
      have key : ∀ k, crowdL (l.take n ++ ⟨o.a, o.b⟩ :: l.drop (n + 1)) k = crowdL l k := fun k => by
        conv => rhs; rw [e2]
        rw [crowdL_app, crowdL_app, crowdL_cons, crowdL_cons, e]
      intro x hx
      rw [key]
      rcases List.mem_append.1 hx with hx | hx
      · exact hc x (List.mem_of_mem_take hx)
      · rcases List.mem_cons.1 hx with rfl | hx
        · have := hc y (List.mem_of_getElem? hy); rwa [e] at this
        · exact hc x (List.mem_of_mem_drop hx)
    | false =>
      have e1 := put_no hs hn hh (v := o.b)
      rw [e1]
      have key : ∀ k, crowdL (l.take n ++ ⟨o.a, o.b⟩ :: l.drop n) k = crowdL l k + (if hashOf o.a = hashOf k then 1 else 0) := fun k => by
        conv => rhs; rw [← List.take_append_drop n l]
        have c : crowdL (⟨o.a, o.b⟩ :: l.drop n) k = (if hashOf o.a = hashOf k then 1 else 0) + crowdL (l.drop n) k := crowdL_cons _ _ _
        rw [crowdL_app, crowdL_app, c]; omega
      have h9 : crowdL l o.a < 9 := by
        rcases h with h | h
        · rw [hh] at h; cases h
        · exact h.2 hb
      intro x hx
      rw [key]
      by_cases q : hashOf o.a = hashOf x.k
      · rw [if_pos q, ← crowdL_hash q]; omega
      · rw [if_neg q]
        rcases List.mem_append.1 hx with hx | hx
        · exact hc x (List.mem_of_mem_take hx)
        · rcases List.mem_cons.1 hx with rfl | hx
          · exact absurd rfl q
          · exact hc x (List.mem_of_mem_drop hx)
theorem ins_get {l : List It} {x : It} {n : Nat} (hn : n ≤ l.length) (i : Nat) : (l.take n ++ x :: l.drop n)[i]? = if i < n then l[i]? else if i = n then some x else l[i - 1]? := by
  have hl : (l.take n).length = n := by rw [List.length_take]; omega
  by_cases h : i < n
  · rw [if_pos h, List.getElem?_append_left (by omega), List.getElem?_take_of_lt h]
  · rw [if_neg h, List.getElem?_append_right (by omega), hl]
    by_cases h2 : i = n
    · subst h2; rw [if_pos rfl, Nat.sub_self]; rfl
    · rw [if_neg h2, show i - n = (i - 1 - n) + 1 by omega, List.getElem?_cons_succ, List.getElem?_drop]; congr 1; omega
theorem whN_spec (x : It) : ∀ (l : List It), whN l x ≤ l.length ∧ (∀ k z, k < whN l x → l[k]? = some z → lessP z x) ∧ (∀ z, l[whN l x]? = some z → ¬ lessP z x)
  | [] => ⟨Nat.le_refl _, fun k z _ h => by simp at h, fun z h => by simp at h⟩
  | y :: l => by
    obtain ⟨h1, h2, h3⟩ := whN_spec x l
    by_cases q : lessP y x
    · have e : whN (y :: l) x = whN l x + 1 := by unfold whN; rw [List.takeWhile_cons, decide_eq_true q]; rfl
      rw [e]
      refine ⟨by simpa using h1, fun k z hk hz => ?_, fun z hz => h3 z (by simpa using hz)⟩
      cases k with
      | zero => simp at hz; subst hz; exact q
      | succ k => exact h2 k z (by omega) (by simpa using hz)
    · have e : whN (y :: l) x = 0 := by unfold whN; rw [List.takeWhile_cons, decide_eq_false q]; rfl
      rw [e]
      exact ⟨Nat.zero_le _, fun k z hk => absurd hk (Nat.not_lt_zero _), fun z hz => by simp at hz; subst hz; exact q⟩
theorem SrtH.ins {l : List It} (h : SrtH l) (x : It) : SrtH (l.take (whN l x) ++ x :: l.drop (whN l x)) := by
  obtain ⟨h1, h2, h3⟩ := whN_spec x l
  intro i y z hy hz
  rw [ins_get h1] at hy hz
  by_cases c1 : i + 1 < whN l x
  · rw [if_pos (by omega)] at hy; rw [if_pos c1] at hz; exact h i y z hy hz
  · rw [if_neg c1] at hz
    by_cases c2 : i + 1 = whN l x
    · rw [if_pos c2] at hz
      rw [if_pos (by omega)] at hy
      cases hz
      have := h2 i y (by omega) hy
      unfold lessP at *; omega
    · rw [if_neg c2] at hz
      rw [if_neg (by omega)] at hy
      by_cases c3 : i = whN l x
      · rw [if_pos c3] at hy
        cases hy
        exact h3 z (by rw [← hz]; congr 1; omega)
      · rw [if_neg c3] at hy
        exact h (i - 1) y z hy (by rw [← hz]; congr 1; omega)
theorem heapM_ok {l : List It} {o : OpT} (hs : SrtH l) (hi : ∀ x ∈ l, inK x) (hl : l.length ≤ 200) (hok : okP o) : SrtH (heapM l o).1 ∧ (∀ x ∈ (heapM l o).1, inK x) ∧ (heapM l o).1.length ≤ 200 := by
  unfold heapM
  split
  · exact ⟨hs, hi, hl⟩
  · split
    · split
      · exact ⟨hs, hi, hl⟩
      · obtain ⟨h1, _, _⟩ := whN_spec ⟨o.a, o.b⟩ l
        refine ⟨hs.ins _, fun x hx => ?_, by simp only [List.length_append, List.length_cons, List.length_take, List.length_drop]; omega⟩
        rcases List.mem_append.1 hx with hx | hx
        · exact hi x (List.mem_of_mem_take hx)
        · rcases List.mem_cons.1 hx with rfl | hx
          · exact ⟨hok.2.1, hok.2.2.1⟩
          · exact hi x (List.mem_of_mem_drop hx)
    · split
      · exact ⟨hs, hi, hl⟩
      · split
        · exact ⟨fun i x y hx hy => hs (1 + i) x y (by rw [← List.getElem?_drop]; exact hx) (by rw [Nat.add_assoc, ← List.getElem?_drop]; exact hy), fun x hx => hi x (List.mem_of_mem_drop hx), by simp only [List.length_drop]; omega⟩
        · exact ⟨hs, hi, hl⟩
theorem rightM_do {m : Mo} {o : OpT} (h : rightM m) (hok : okP o) : rightM (doM m o).1 := by
  obtain ⟨h1, h2, h3, h4, h5, h6, h7, h8⟩ := (rightM_iff m).1 h
  rw [rightM_iff]
  unfold doM
  split
  · obtain ⟨a, b, c⟩ := pairsM_ok h7 h3.1 h3.2 hok
    exact ⟨h1, h2, ⟨b, c⟩, h4, h5, h6, a, h8⟩
  · split
    · rename_i hb
      obtain ⟨a, b, c⟩ := pairsM_ok h8 h4.1 h4.2 hok
      exact ⟨h1, pairsM_crowd h8 h2 hb, h3, ⟨b, c⟩, h5, h6, h7, a⟩
    · split
      · exact ⟨h1, h2, h3, h4, h5, rowM_len h6, h7, h8⟩
      · obtain ⟨a, b, c⟩ := heapM_ok (o := o) h1 h5.1 h5.2 hok
        exact ⟨a, h2, h3, h4, ⟨b, c⟩, h6, h7, h8⟩
end Go.Proofs.Ytlhnnleaiinjaaa
set_option linter.unusedVariables false
set_option linter.unusedSimpArgs false
namespace Go.Proofs.Ytlhnnleaiinjaaa
open Go Go.XL
theorem Up.or {C C1 C2 : Nat → Prop} {w : World} (h : Up C w C1) (k : Up C w C2) : Up C w (fun x => C1 x ∨ C2 x) := fun i hi => hi.elim (h i) (k i)
theorem MoS.of {p : Ph} {m : Mo} (k1 : m.map.length ≤ p.c1) (k2 : m.tab.length ≤ p.c2) (k3 : m.row.length ≤ p.c3) (k4 : m.heap.length ≤ p.c4) (h : rightM m) : MoS p m := by
  have := (rightM_iff m).1 h
  exact ⟨k1, k2, k3, k4, by omega, by omega, by omega, by omega⟩
theorem Ft.all {M : Nat → Prop} {p : Ph} {m : Mo} {w : World} (h1 : Ft M (fun u => Sl u p.a1 2 (m.map.map It.cells)) w) (h2 : Ft M (fun u => Sl u p.a2 2 (m.tab.map It.cells)) w) (h3 : Ft M (fun u => Sl u p.a3 1 (m.row.map fun x => [i6 x])) w) (h4 : Ft M (fun u => Sl u p.a4 2 (m.heap.map It.cells)) w) : Ft M (fun u => MoR u p m) w :=
  ⟨h1.lt, fun u a => ⟨h1.imm u a, h2.imm u a, h3.imm u a, h4.imm u a⟩⟩
theorem Ft.wid {M M' : Nat → Prop} {I : World → Prop} {w : World} (h : Ft M I w) (hl : ∀ k, M' k → k < w.heap.size) (hn : ∀ k, M k → M' k) : Ft M' I w :=
  ⟨hl, fun u a => h.imm u (a.mono fun k _ e hk => e (hn k hk))⟩
def boxF (k : Int) : FuncId := if k = 1 then 63 else if k = 2 then 65 else if k = 3 then 66 else 68
theorem box_cases {o : OpT} (hok : okP o) : o.box = 1 ∨ o.box = 2 ∨ o.box = 3 ∨ o.box = 4 := by have := hok.1; unfold kindP at this; omega
theorem boxF_ok (k : Int) : calleeOK Try.prog (boxF k) = true := by
  unfold boxF
  repeat' split
  all_goals first | exact ok63 | exact ok65 | exact ok66 | exact ok68
theorem boxF_at {o : OpT} (hok : okP o) : (#[Value.func (.func 63) #[] #[], .func (.func 65) #[] #[], .func (.func 66) #[] #[], .func (.func 68) #[] #[]] : Array Value)[(o.box - 1).toNat * 1]? = some (.func (.func (boxF o.box)) #[] #[]) := by
  rcases box_cases hok with e | e | e | e <;> rw [e] <;> rfl
/-- what is done by any container's operations -/
theorem c_box (b : Nat) (p : Ph) (m : Mo) (hs : MoS p m) (hR : rightM m) (o : OpT) (hok : okP o) (w : World) (M : Nat → Prop) (hF : Ft M (fun u => MoR u p m) w) (hb : Has w b (moC p m) 38) (hn : ∀ k, M k → k ≠ b) :
    FC Try.prog (boxF o.box) [.pointer (some ⟨b, 0, none⟩), .agg o.cells.toArray] w (fun u w' => ∃ p' M', u = .agg (doM m o).2.cells.toArray ∧ MoS p' (doM m o).1 ∧ Ft M' (fun u => MoR u p' (doM m o).1) w' ∧ Up M w M' ∧ Has w' b (moC p' (doM m o).1) 38 ∧ Agr (· = b) w w') := by
  have hRd := rightM_do hR hok
  obtain ⟨h1, h2, h3, h4, h5, h6, h7, h8⟩ := (rightM_iff m).1 hR
  rcases box_cases hok with e | e | e | e
  · have hd : doM m o = ({ m with map := (pairsM m.map o).1 }, (pairsM m.map o).2) := by unfold doM; rw [if_pos e]
    rw [hd] at hRd ⊢
    rw [e, show boxF 1 = 63 from rfl]
    refine FC.mono (c_box1 b p m h7 h3.2 hs.k1 o hok w M (hF.imp fun u h => h.h1) hb hn) ?_
    rintro v w' ⟨a', c', M', rfl, hc', hF', hup, hb', ag⟩
    have hF2 := hF.updD ag hn
    have hl : ∀ k, (M k ∨ M' k) → k < w'.heap.size := fun k hk => hk.elim (hF2.lt k) (hF'.lt k)
    refine ⟨{ p with a1 := a', c1 := c' }, fun k => M k ∨ M' k, rfl, MoS.of hc' hs.k2 hs.k3 hs.k4 hRd, Ft.all (p := { p with a1 := a', c1 := c' }) (hF'.wid hl fun _ h => .inr h) ((hF2.imp fun u h => h.h2).wid hl fun _ h => .inl h) ((hF2.imp fun u h => h.h3).wid hl fun _ h => .inl h) ((hF2.imp fun u h => h.h4).wid hl fun _ h => .inl h), (Up.refl _ _).or hup, hb', ag⟩
  · have hd : doM m o = ({ m with tab := (pairsM m.tab o).1 }, (pairsM m.tab o).2) := by unfold doM; rw [if_neg (by omega), if_pos e]
    rw [hd] at hRd ⊢
    rw [e, show boxF 2 = 65 from rfl]
    refine FC.mono (c_box2 b p m h8 h4.2 hs.k2 o hok w M (hF.imp fun u h => h.h2) hb hn) ?_
    rintro v w' ⟨a', c', M', rfl, hc', hF', hup, hb', ag⟩
    have hF2 := hF.updD ag hn
    have hl : ∀ k, (M k ∨ M' k) → k < w'.heap.size := fun k hk => hk.elim (hF2.lt k) (hF'.lt k)
    refine ⟨{ p with a2 := a', c2 := c' }, fun k => M k ∨ M' k, rfl, MoS.of hs.k1 hc' hs.k3 hs.k4 hRd, Ft.all (p := { p with a2 := a', c2 := c' }) ((hF2.imp fun u h => h.h1).wid hl fun _ h => .inl h) (hF'.wid hl fun _ h => .inr h) ((hF2.imp fun u h => h.h3).wid hl fun _ h => .inl h) ((hF2.imp fun u h => h.h4).wid hl fun _ h => .inl h), (Up.refl _ _).or hup, hb', ag⟩
  · have hd : doM m o = ({ m with row := (rowM m.row o).1 }, (rowM m.row o).2) := by unfold doM; rw [if_neg (by omega), if_neg (by omega), if_pos e]
    rw [hd] at hRd ⊢
    rw [e, show boxF 3 = 66 from rfl]
    refine FC.mono (c_box3 b p m trivial h6 hs.k3 o hok w M (hF.imp fun u h => h.h3) hb hn) ?_
    rintro v w' ⟨a', c', M', rfl, hc', hF', hup, hb', ag⟩
    have hF2 := hF.updD ag hn
    have hl : ∀ k, (M k ∨ M' k) → k < w'.heap.size := fun k hk => hk.elim (hF2.lt k) (hF'.lt k)
    refine ⟨{ p with a3 := a', c3 := c' }, fun k => M k ∨ M' k, rfl, MoS.of hs.k1 hs.k2 hc' hs.k4 hRd, Ft.all (p := { p with a3 := a', c3 := c' }) ((hF2.imp fun u h => h.h1).wid hl fun _ h => .inl h) ((hF2.imp fun u h => h.h2).wid hl fun _ h => .inl h) (hF'.wid hl fun _ h => .inr h) ((hF2.imp fun u h => h.h4).wid hl fun _ h => .inl h), (Up.refl _ _).or hup, hb', ag⟩
  · have hd : doM m o = ({ m with heap := (heapM m.heap o).1 }, (heapM m.heap o).2) := by unfold doM; rw [if_neg (by omega), if_neg (by omega), if_neg (by omega)]
    rw [hd] at hRd ⊢
    rw [e, show boxF 4 = 68 from rfl]
    refine FC.mono (c_box4 b p m h1 h5.2 hs.k4 o hok w M (hF.imp fun u h => h.h4) hb hn) ?_
    rintro v w' ⟨a', c', M', rfl, hc', hF', hup, hb', ag⟩
    have hF2 := hF.updD ag hn
    have hl : ∀ k, (M k ∨ M' k) → k < w'.heap.size := fun k hk => hk.elim (hF2.lt k) (hF'.lt k)
    refine ⟨{ p with a4 := a', c4 := c' }, fun k => M k ∨ M' k, rfl, MoS.of hs.k1 hs.k2 hs.k3 hc' hRd, Ft.all (p := { p with a4 := a', c4 := c' }) ((hF2.imp fun u h => h.h1).wid hl fun _ h => .inl h) ((hF2.imp fun u h => h.h2).wid hl fun _ h => .inl h) ((hF2.imp fun u h => h.h3).wid hl fun _ h => .inl h) (hF'.wid hl fun _ h => .inr h), (Up.refl _ _).or hup, hb', ag⟩
/-- an answer: what the containers hold then, and what is told -/
def AnsM (M : Nat → Prop) (w w' : World) (q : Mo × ResT) (u : Value) : Prop := Sub w w' ∧ ∃ p' M', u = .tuple #[moV p' q.1, .agg q.2.cells.toArray] ∧ MoS p' q.1 ∧ Ft M' (fun u => MoR u p' q.1) w' ∧ Up M w M'
theorem c_do (p : Ph) (m : Mo) (hs : MoS p m) (hR : rightM m) (o : OpT) (hok : okP o) (w : World) (M : Nat → Prop) (hF : Ft M (fun u => MoR u p m) w) :
    FC Try.prog 47 [moV p m, .agg o.cells.toArray] w (fun u w' => AnsM M w w' (doM m o) u) := by
  have hbx := box_cases hok
  refine FC.intro Try.func47 rfl Try.ntmps47 rfl ?_
  have S := Sub.refl w
  refine RC.seq ?_
  refine RC.region rfl ?_
  refine RL.box rfl rfl rfl (fun b_2 w_2 e_2 z_2 hb_2 s_2 => ?_)
  have ge_2 := S.le e_2
  have d_hF_b_2 := hF.neNew e_2
  have S := S.trans s_2
  have hF := hF.sub s_2
  have hb_2 : Has w_2 b_2 ([.slice p.a1 m.map.length p.c1, .slice p.a2 m.tab.length p.c2, .slice p.a3 m.row.length p.c3, .slice p.a4 m.heap.length p.c4]) _ := hb_2
  refine RL.box rfl rfl rfl (fun b_3 w_3 e_3 z_3 hb_3 s_3 => ?_)
  have ge_3 := S.le e_3
  have n_2__3 := hb_2.ne e_3
  have d_hF_b_3 := hF.neNew e_3
  have S := S.trans s_3
  have hF := hF.sub s_3
  have hb_2 := hb_2.sub s_3
  have hb_3 : Has w_3 b_3 ([.int .i64 o.box, .int .i64 o.kind, .int .i64 o.a, .int .i64 o.b]) _ := hb_3
  refine RL.alloc ze38 rfl rfl (fun b_4 w_4 e_4 z_4 hb_4 s_4 => ?_)
  have ge_4 := S.le e_4
  have n_2__4 := hb_2.ne e_4
  have n_3__4 := hb_3.ne e_4
  have d_hF_b_4 := hF.neNew e_4
  have S := S.trans s_4
  have hF := hF.sub s_4
  have hb_2 := hb_2.sub s_4
  have hb_3 := hb_3.sub s_4
  refine RL.alloc ze43 rfl rfl (fun b_5 w_5 e_5 z_5 hb_5 s_5 => ?_)
  have ge_5 := S.le e_5
  have n_2__5 := hb_2.ne e_5
  have n_3__5 := hb_3.ne e_5
  have n_4__5 := hb_4.ne e_5
  have d_hF_b_5 := hF.neNew e_5
  have S := S.trans s_5
  have hF := hF.sub s_5
  have hb_2 := hb_2.sub s_5
  have hb_3 := hb_3.sub s_5
  have hb_4 := hb_4.sub s_5
  refine RL.nil (RC.back ?_)
  refine RC.seq ?_
  refine RC.drawD (fun k => k = b_2) [6, 8] w_5.heap.size 9 rfl rfl mxo (fun w1 s2 => ?_)
  have hNN : ∀ k, ((k = b_2) ∨ w_5.heap.size ≤ k) → w.heap.size ≤ k := fun k e => e.elim (fun e => e ▸ ge_2) (fun e => Nat.le_trans S.size e)
  have ent_S := S.size
  have hN0 : ∀ k, w_5.heap.size ≤ k → w.heap.size ≤ k := fun k e => Nat.le_trans S.size e
  have ltD_hF := fun k hk => (hF.ge k hk).2
  have ltD_b_2 := hb_2.lt
  have ltD_b_3 := hb_3.lt
  have ltD_b_4 := hb_4.lt
  have ltD_b_5 := hb_5.lt
  have szD := Nat.le_refl w_5.heap.size
  have S := S.trans s2
  have hF := hF.sub s2
  have hb_2 := hb_2.sub s2
  have hb_3 := hb_3.sub s2
  have hb_4 := hb_4.sub s2
  have hb_5 := hb_5.sub s2
  have szD := Nat.le_trans szD s2.size
  refine RD.take 1 rfl (by kernel_rfl) (by kernel_rfl) (by kernel_rfl) (fun w' s' => .field0 fo40_0 rfl) rfl rfl ?_
  refine RD.take 2 rfl (by kernel_rfl) (by kernel_rfl) (by kernel_rfl) (fun w' s' => .load1 sh3 rfl ((hb_3.step s' (fun e => e.elim (fun e => n_2__3.symm e) (fun e => Nat.not_le.2 ltD_b_3 e))).cell rfl)) rfl rfl ?_
  refine RD.take 3 rfl (by kernel_rfl) (by kernel_rfl) (by kernel_rfl) (fun w' s' => .as (.bin rfl rfl rfl) (wi64 (y := o.box - 1) (by omega) (by omega))) rfl rfl ?_
  refine RD.take 5 rfl (by kernel_rfl) (by kernel_rfl) (by kernel_rfl) (fun w' s' => .loadR ([.int .i64 o.box, .int .i64 o.kind, .int .i64 o.a, .int .i64 o.b]) sh40 rfl (hb_3.step s' (fun e => e.elim (fun e => n_2__3.symm e) (fun e => Nat.not_le.2 ltD_b_3 e))).row rfl) rfl rfl ?_
  refine RD.all [0, 7] (by kernel_rfl) rfl (RDs.cons rfl ?_ (RDs.cons rfl ?_ (RDs.nil)))
  ·
    refine RL.call rfl ok57 (c_boxes w1) rfl rfl ?_
    rintro _ w3 ⟨rfl, s4⟩
    have S := S.trans s4
    have hF := hF.sub s4
    have hb_2 := hb_2.sub s4
    have hb_3 := hb_3.sub s4
    have hb_4 := hb_4.sub s4
    have hb_5 := hb_5.sub s4
    have szD := Nat.le_trans szD s4.size
    refine RD.back s4.agr ?_
    refine RD.take 4 rfl (by kernel_rfl) (by kernel_rfl) (by kernel_rfl) (fun w' s' => .index1 ar95 sh94 rfl rfl (by omega) (boxF_at hok)) rfl rfl ?_
    refine RD.all [6, 7] (by kernel_rfl) rfl (RDs.cons rfl ?_ (RDs.cons rfl ?_ (RDs.nil)))
    ·
      refine RL.callv rfl rfl (us := []) (cs := []) (boxF_ok o.box) (c_box b_2 p m hs hR o hok w3 M hF hb_2 d_hF_b_2) rfl rfl ?_
      rintro _ w5 ⟨p', M', rfl, hs', hF', hup, hb_2', a13⟩
      have d_hF'_b_2 := upNe hup d_hF_b_2 hb_2.lt
      have d_hF'_b_3 := upNe hup d_hF_b_3 hb_3.lt
      have d_hF'_b_4 := upNe hup d_hF_b_4 hb_4.lt
      have d_hF'_b_5 := upNe hup d_hF_b_5 hb_5.lt
      have hup := hup.le S.size
      have S := S.agrN a13 (fun k e => e ▸ ge_2)
      have hF := hF.step a13 (fun k hk e => d_hF_b_2 k hk e)
      have hb_3 := hb_3.step a13 (fun e => n_2__3.symm e)
      have hb_4 := hb_4.step a13 (fun e => n_2__4.symm e)
      have hb_5 := hb_5.step a13 (fun e => n_2__5.symm e)
      have szD := Nat.le_trans szD a13.size
      have hb_2 := hb_2'
      refine RD.backW rfl (a13.mono fun k _ e => .inl e) ?_
      refine RD.all [7] (by kernel_rfl) rfl (RDs.cons rfl ?_ (RDs.nil))
      refine RL.alloc ze43 rfl rfl (fun b_6 w_6 e_6 z_6 hb_6 s_6 => ?_)
      have fr_b_6 : w_5.heap.size ≤ b_6 := by rw [e_6]; exact szD
      have ge_6 := S.le e_6
      have n_3__6 := hb_3.ne e_6
      have n_4__6 := hb_4.ne e_6
      have n_5__6 := hb_5.ne e_6
      have n_2__6 := hb_2.ne e_6
      have d_hF'_b_6 := hF'.neNew e_6
      have S := S.trans s_6
      have hb_3 := hb_3.sub s_6
      have hb_4 := hb_4.sub s_6
      have hb_5 := hb_5.sub s_6
      have szD := Nat.le_trans szD s_6.size
      have hb_2 := hb_2.sub s_6
      have hF' := hF'.sub s_6
      refine RD.back s_6.agr ?_
      refine RD.all [8] (by kernel_rfl) rfl (RDs.cons rfl ?_ (RDs.nil))
      refine RL.store sh43 rfl rfl rfl hb_6 (by exact Nat.le_of_ble_eq_true rfl) (by rfl) rfl (fun w7 z7 hb_6 a7 => ?_)
      have S := S.upd a7 ge_6
      have hb_3 := hb_3.upd a7 n_3__6
      have hb_4 := hb_4.upd a7 n_4__6
      have hb_5 := hb_5.upd a7 n_5__6
      have szD := Nat.le_trans szD a7.size
      have hb_2 := hb_2.upd a7 n_2__6
      have hF' := hF'.updD a7 d_hF'_b_6
      have hb_6 : Has w7 b_6 ([.int .i64 (doM m o).2.e, .int .i64 (doM m o).2.a, .int .i64 (doM m o).2.b]) _ := hb_6.now (by kernel_rfl)
      refine RD.backW rfl (a7.mono fun k _ e => e ▸ (.inr fr_b_6)) ?_
      refine RD.done (by kernel_rfl) (RC.back ?_)
      refine RC.seq ?_
      refine RC.drawD (fun k => k = b_4 ∨ k = b_5) [2, 3] w7.heap.size 4 rfl rfl mxo (fun w8 s9 => ?_)
      have hNN : ∀ k, ((k = b_4 ∨ k = b_5) ∨ w7.heap.size ≤ k) → w.heap.size ≤ k := fun k e => e.elim (fun e => e.elim (fun e => e ▸ ge_4) (fun e => e ▸ ge_5)) (fun e => Nat.le_trans S.size e)
      have ent_S := S.size
      have hN0 : ∀ k, w7.heap.size ≤ k → w.heap.size ≤ k := fun k e => Nat.le_trans S.size e
      have ltD_b_3 := hb_3.lt
      have ltD_b_4 := hb_4.lt
      have ltD_b_5 := hb_5.lt
      have ltD_b_2 := hb_2.lt
      have ltD_hF' := fun k hk => (hF'.ge k hk).2
      have ltD_b_6 := hb_6.lt
      have szD := Nat.le_refl w7.heap.size
      have S := S.trans s9
      have hb_3 := hb_3.sub s9
      have hb_4 := hb_4.sub s9
      have hb_5 := hb_5.sub s9
      have hb_2 := hb_2.sub s9
      have hF' := hF'.sub s9
      have hb_6 := hb_6.sub s9
      have szD := Nat.le_trans szD s9.size
      refine RD.take 0 rfl (by kernel_rfl) (by kernel_rfl) (by kernel_rfl) (fun w' s' => .loadR ([.slice p'.a1 (doM m o).1.map.length p'.c1, .slice p'.a2 (doM m o).1.tab.length p'.c2, .slice p'.a3 (doM m o).1.row.length p'.c3, .slice p'.a4 (doM m o).1.heap.length p'.c4]) sh38 rfl (hb_2.step s' (fun e => e.elim (fun e => e.elim (fun e => n_2__4 e) (fun e => n_2__5 e)) (fun e => Nat.not_le.2 ltD_b_2 e))).row rfl) rfl rfl ?_
      refine RD.take 1 rfl (by kernel_rfl) (by kernel_rfl) (by kernel_rfl) (fun w' s' => .loadR ([.int .i64 (doM m o).2.e, .int .i64 (doM m o).2.a, .int .i64 (doM m o).2.b]) sh43 rfl (hb_6.step s' (fun e => e.elim (fun e => e.elim (fun e => n_4__6.symm e) (fun e => n_5__6.symm e)) (fun e => Nat.not_le.2 ltD_b_6 e))).row rfl) rfl rfl ?_
      refine RD.all [2] (by kernel_rfl) rfl (RDs.cons rfl ?_ (RDs.nil))
      refine RL.store sh38 rfl rfl rfl hb_4 (by exact Nat.le_of_ble_eq_true rfl) (by rfl) rfl (fun w10 z10 hb_4 a10 => ?_)
      have S := S.upd a10 ge_4
      have hb_3 := hb_3.upd a10 n_3__4
      have hb_5 := hb_5.upd a10 n_4__5.symm
      have hb_2 := hb_2.upd a10 n_2__4
      have hF' := hF'.updD a10 d_hF'_b_4
      have hb_6 := hb_6.upd a10 n_4__6.symm
      have szD := Nat.le_trans szD a10.size
      have hb_4 : Has w10 b_4 ([.slice p'.a1 (doM m o).1.map.length p'.c1, .slice p'.a2 (doM m o).1.tab.length p'.c2, .slice p'.a3 (doM m o).1.row.length p'.c3, .slice p'.a4 (doM m o).1.heap.length p'.c4]) _ := hb_4.now (by kernel_rfl)
      refine RD.backW rfl (a10.mono fun k _ e => e ▸ (.inl (.inl rfl))) ?_
      refine RD.all [3] (by kernel_rfl) rfl (RDs.cons rfl ?_ (RDs.nil))
      refine RL.store sh43 rfl rfl rfl hb_5 (by exact Nat.le_of_ble_eq_true rfl) (by rfl) rfl (fun w11 z11 hb_5 a11 => ?_)
      have S := S.upd a11 ge_5
      have hb_3 := hb_3.upd a11 n_3__5
      have hb_4 := hb_4.upd a11 n_4__5
      have hb_2 := hb_2.upd a11 n_2__5
      have hF' := hF'.updD a11 d_hF'_b_5
      have hb_6 := hb_6.upd a11 n_5__6.symm
      have szD := Nat.le_trans szD a11.size
      have hb_5 : Has w11 b_5 ([.int .i64 (doM m o).2.e, .int .i64 (doM m o).2.a, .int .i64 (doM m o).2.b]) _ := hb_5.now (by kernel_rfl)
      refine RD.backW rfl (a11.mono fun k _ e => e ▸ (.inl (.inr (rfl)))) ?_
      refine RD.done (by kernel_rfl) (RC.back ?_)
      refine RC.done (rs := [.cell 4 38, .cell 5 43]) (vs := [_, _]) rfl rfl ⟨⟨_, rfl, .inr ⟨[.slice p'.a1 (doM m o).1.map.length p'.c1, .slice p'.a2 (doM m o).1.tab.length p'.c2, .slice p'.a3 (doM m o).1.row.length p'.c3, .slice p'.a4 (doM m o).1.heap.length p'.c4], sh38, hb_4.row, rfl⟩⟩, ⟨_, rfl, .inr ⟨[.int .i64 (doM m o).2.e, .int .i64 (doM m o).2.a, .int .i64 (doM m o).2.b], sh43, hb_5.row, rfl⟩⟩, trivial⟩ ?_
      -- end 1
      exact ⟨S, p', M', rfl, hs', hF', hup⟩
    ·
      refine RL.alloc ze43 rfl rfl (fun b_6 w_6 e_6 z_6 hb_6 s_6 => ?_)
      have fr_b_6 : w_5.heap.size ≤ b_6 := by rw [e_6]; exact szD
      have ge_6 := S.le e_6
      have n_2__6 := hb_2.ne e_6
      have n_3__6 := hb_3.ne e_6
      have n_4__6 := hb_4.ne e_6
      have n_5__6 := hb_5.ne e_6
      have d_hF_b_6 := hF.neNew e_6
      have S := S.trans s_6
      have hF := hF.sub s_6
      have hb_2 := hb_2.sub s_6
      have hb_3 := hb_3.sub s_6
      have hb_4 := hb_4.sub s_6
      have hb_5 := hb_5.sub s_6
      have szD := Nat.le_trans szD s_6.size
      refine RD.back s_6.agr ?_
      refine RD.all [6] (by kernel_rfl) rfl (RDs.cons rfl ?_ (RDs.nil))
      refine RL.callv rfl rfl (us := []) (cs := []) (boxF_ok o.box) (c_box b_2 p m hs hR o hok w_6 M hF hb_2 d_hF_b_2) rfl rfl ?_
      rintro _ w12 ⟨p', M', rfl, hs', hF', hup, hb_2', a13⟩
      have d_hF'_b_2 := upNe hup d_hF_b_2 hb_2.lt
      have d_hF'_b_3 := upNe hup d_hF_b_3 hb_3.lt
      have d_hF'_b_4 := upNe hup d_hF_b_4 hb_4.lt
      have d_hF'_b_5 := upNe hup d_hF_b_5 hb_5.lt
      have d_hF'_b_6 := upNe hup d_hF_b_6 hb_6.lt
      have hup := hup.le S.size
      have S := S.agrN a13 (fun k e => e ▸ ge_2)
      have hF := hF.step a13 (fun k hk e => d_hF_b_2 k hk e)
      have hb_3 := hb_3.step a13 (fun e => n_2__3.symm e)
      have hb_4 := hb_4.step a13 (fun e => n_2__4.symm e)
      have hb_5 := hb_5.step a13 (fun e => n_2__5.symm e)
      have szD := Nat.le_trans szD a13.size
      have hb_6 := hb_6.step a13 (fun e => n_2__6.symm e)
      have hb_2 := hb_2'
      refine RD.backW rfl (a13.mono fun k _ e => .inl e) ?_
      refine RD.all [8] (by kernel_rfl) rfl (RDs.cons rfl ?_ (RDs.nil))
      refine RL.store sh43 rfl rfl rfl hb_6 (by exact Nat.le_of_ble_eq_true rfl) (by rfl) rfl (fun w14 z14 hb_6 a14 => ?_)
      have S := S.upd a14 ge_6
      have hb_3 := hb_3.upd a14 n_3__6
      have hb_4 := hb_4.upd a14 n_4__6
      have hb_5 := hb_5.upd a14 n_5__6
      have szD := Nat.le_trans szD a14.size
      have hb_2 := hb_2.upd a14 n_2__6
      have hF' := hF'.updD a14 d_hF'_b_6
      have hb_6 : Has w14 b_6 ([.int .i64 (doM m o).2.e, .int .i64 (doM m o).2.a, .int .i64 (doM m o).2.b]) _ := hb_6.now (by kernel_rfl)
      refine RD.backW rfl (a14.mono fun k _ e => e ▸ (.inr fr_b_6)) ?_
      refine RD.done (by kernel_rfl) (RC.back ?_)
      refine RC.seq ?_
      refine RC.drawD (fun k => k = b_4 ∨ k = b_5) [2, 3] w14.heap.size 4 rfl rfl mxo (fun w15 s16 => ?_)
      have hNN : ∀ k, ((k = b_4 ∨ k = b_5) ∨ w14.heap.size ≤ k) → w.heap.size ≤ k := fun k e => e.elim (fun e => e.elim (fun e => e ▸ ge_4) (fun e => e ▸ ge_5)) (fun e => Nat.le_trans S.size e)
      have ent_S := S.size
      have hN0 : ∀ k, w14.heap.size ≤ k → w.heap.size ≤ k := fun k e => Nat.le_trans S.size e
      have ltD_b_3 := hb_3.lt
      have ltD_b_4 := hb_4.lt
      have ltD_b_5 := hb_5.lt
      have ltD_b_6 := hb_6.lt
      have ltD_b_2 := hb_2.lt
      have ltD_hF' := fun k hk => (hF'.ge k hk).2
      have szD := Nat.le_refl w14.heap.size
      have S := S.trans s16
      have hb_3 := hb_3.sub s16
      have hb_4 := hb_4.sub s16
      have hb_5 := hb_5.sub s16
      have hb_6 := hb_6.sub s16
      have hb_2 := hb_2.sub s16
      have hF' := hF'.sub s16
      have szD := Nat.le_trans szD s16.size
      refine RD.take 0 rfl (by kernel_rfl) (by kernel_rfl) (by kernel_rfl) (fun w' s' => .loadR ([.slice p'.a1 (doM m o).1.map.length p'.c1, .slice p'.a2 (doM m o).1.tab.length p'.c2, .slice p'.a3 (doM m o).1.row.length p'.c3, .slice p'.a4 (doM m o).1.heap.length p'.c4]) sh38 rfl (hb_2.step s' (fun e => e.elim (fun e => e.elim (fun e => n_2__4 e) (fun e => n_2__5 e)) (fun e => Nat.not_le.2 ltD_b_2 e))).row rfl) rfl rfl ?_
      refine RD.take 1 rfl (by kernel_rfl) (by kernel_rfl) (by kernel_rfl) (fun w' s' => .loadR ([.int .i64 (doM m o).2.e, .int .i64 (doM m o).2.a, .int .i64 (doM m o).2.b]) sh43 rfl (hb_6.step s' (fun e => e.elim (fun e => e.elim (fun e => n_4__6.symm e) (fun e => n_5__6.symm e)) (fun e => Nat.not_le.2 ltD_b_6 e))).row rfl) rfl rfl ?_
      refine RD.all [2] (by kernel_rfl) rfl (RDs.cons rfl ?_ (RDs.nil))
      refine RL.store sh38 rfl rfl rfl hb_4 (by exact Nat.le_of_ble_eq_true rfl) (by rfl) rfl (fun w17 z17 hb_4 a17 => ?_)
      have S := S.upd a17 ge_4
      have hb_3 := hb_3.upd a17 n_3__4
      have hb_5 := hb_5.upd a17 n_4__5.symm
      have hb_6 := hb_6.upd a17 n_4__6.symm
      have hb_2 := hb_2.upd a17 n_2__4
      have hF' := hF'.updD a17 d_hF'_b_4
      have szD := Nat.le_trans szD a17.size
      have hb_4 : Has w17 b_4 ([.slice p'.a1 (doM m o).1.map.length p'.c1, .slice p'.a2 (doM m o).1.tab.length p'.c2, .slice p'.a3 (doM m o).1.row.length p'.c3, .slice p'.a4 (doM m o).1.heap.length p'.c4]) _ := hb_4.now (by kernel_rfl)
      refine RD.backW rfl (a17.mono fun k _ e => e ▸ (.inl (.inl rfl))) ?_
      refine RD.all [3] (by kernel_rfl) rfl (RDs.cons rfl ?_ (RDs.nil))
      refine RL.store sh43 rfl rfl rfl hb_5 (by exact Nat.le_of_ble_eq_true rfl) (by rfl) rfl (fun w18 z18 hb_5 a18 => ?_)
      have S := S.upd a18 ge_5
      have hb_3 := hb_3.upd a18 n_3__5
      have hb_4 := hb_4.upd a18 n_4__5
      have hb_6 := hb_6.upd a18 n_5__6.symm
      have hb_2 := hb_2.upd a18 n_2__5
      have hF' := hF'.updD a18 d_hF'_b_5
      have szD := Nat.le_trans szD a18.size
      have hb_5 : Has w18 b_5 ([.int .i64 (doM m o).2.e, .int .i64 (doM m o).2.a, .int .i64 (doM m o).2.b]) _ := hb_5.now (by kernel_rfl)
      refine RD.backW rfl (a18.mono fun k _ e => e ▸ (.inl (.inr (rfl)))) ?_
      refine RD.done (by kernel_rfl) (RC.back ?_)
      refine RC.done (rs := [.cell 4 38, .cell 5 43]) (vs := [_, _]) rfl rfl ⟨⟨_, rfl, .inr ⟨[.slice p'.a1 (doM m o).1.map.length p'.c1, .slice p'.a2 (doM m o).1.tab.length p'.c2, .slice p'.a3 (doM m o).1.row.length p'.c3, .slice p'.a4 (doM m o).1.heap.length p'.c4], sh38, hb_4.row, rfl⟩⟩, ⟨_, rfl, .inr ⟨[.int .i64 (doM m o).2.e, .int .i64 (doM m o).2.a, .int .i64 (doM m o).2.b], sh43, hb_5.row, rfl⟩⟩, trivial⟩ ?_
      -- end 2
      exact ⟨S, p', M', rfl, hs', hF', hup⟩
  ·
    refine RL.alloc ze43 rfl rfl (fun b_6 w_6 e_6 z_6 hb_6 s_6 => ?_)
    have fr_b_6 : w_5.heap.size ≤ b_6 := by rw [e_6]; exact szD
    have ge_6 := S.le e_6
    have n_2__6 := hb_2.ne e_6
    have n_3__6 := hb_3.ne e_6
    have n_4__6 := hb_4.ne e_6
    have n_5__6 := hb_5.ne e_6
    have d_hF_b_6 := hF.neNew e_6
    have S := S.trans s_6
    have hF := hF.sub s_6
    have hb_2 := hb_2.sub s_6
    have hb_3 := hb_3.sub s_6
    have hb_4 := hb_4.sub s_6
    have hb_5 := hb_5.sub s_6
    have szD := Nat.le_trans szD s_6.size
    refine RD.back s_6.agr ?_
    refine RD.all [0] (by kernel_rfl) rfl (RDs.cons rfl ?_ (RDs.nil))
    refine RL.call rfl ok57 (c_boxes w_6) rfl rfl ?_
    rintro _ w19 ⟨rfl, s20⟩
    have S := S.trans s20
    have hF := hF.sub s20
    have hb_2 := hb_2.sub s20
    have hb_3 := hb_3.sub s20
    have hb_4 := hb_4.sub s20
    have hb_5 := hb_5.sub s20
    have szD := Nat.le_trans szD s20.size
    have hb_6 := hb_6.sub s20
    refine RD.back s20.agr ?_
    refine RD.take 4 rfl (by kernel_rfl) (by kernel_rfl) (by kernel_rfl) (fun w' s' => .index1 ar95 sh94 rfl rfl (by omega) (boxF_at hok)) rfl rfl ?_
    refine RD.all [6] (by kernel_rfl) rfl (RDs.cons rfl ?_ (RDs.nil))
    refine RL.callv rfl rfl (us := []) (cs := []) (boxF_ok o.box) (c_box b_2 p m hs hR o hok w19 M hF hb_2 d_hF_b_2) rfl rfl ?_
    rintro _ w21 ⟨p', M', rfl, hs', hF', hup, hb_2', a13⟩
    have d_hF'_b_2 := upNe hup d_hF_b_2 hb_2.lt
    have d_hF'_b_3 := upNe hup d_hF_b_3 hb_3.lt
    have d_hF'_b_4 := upNe hup d_hF_b_4 hb_4.lt
    have d_hF'_b_5 := upNe hup d_hF_b_5 hb_5.lt
    have d_hF'_b_6 := upNe hup d_hF_b_6 hb_6.lt
    have hup := hup.le S.size
    have S := S.agrN a13 (fun k e => e ▸ ge_2)
    have hF := hF.step a13 (fun k hk e => d_hF_b_2 k hk e)
    have hb_3 := hb_3.step a13 (fun e => n_2__3.symm e)
    have hb_4 := hb_4.step a13 (fun e => n_2__4.symm e)
    have hb_5 := hb_5.step a13 (fun e => n_2__5.symm e)
    have szD := Nat.le_trans szD a13.size
    have hb_6 := hb_6.step a13 (fun e => n_2__6.symm e)
    have hb_2 := hb_2'
    refine RD.backW rfl (a13.mono fun k _ e => .inl e) ?_
    refine RD.all [8] (by kernel_rfl) rfl (RDs.cons rfl ?_ (RDs.nil))
    refine RL.store sh43 rfl rfl rfl hb_6 (by exact Nat.le_of_ble_eq_true rfl) (by rfl) rfl (fun w23 z23 hb_6 a23 => ?_)
    have S := S.upd a23 ge_6
    have hb_3 := hb_3.upd a23 n_3__6
    have hb_4 := hb_4.upd a23 n_4__6
    have hb_5 := hb_5.upd a23 n_5__6
    have szD := Nat.le_trans szD a23.size
    have hb_2 := hb_2.upd a23 n_2__6
    have hF' := hF'.updD a23 d_hF'_b_6
    have hb_6 : Has w23 b_6 ([.int .i64 (doM m o).2.e, .int .i64 (doM m o).2.a, .int .i64 (doM m o).2.b]) _ := hb_6.now (by kernel_rfl)
    refine RD.backW rfl (a23.mono fun k _ e => e ▸ (.inr fr_b_6)) ?_
    refine RD.done (by kernel_rfl) (RC.back ?_)
    refine RC.seq ?_
    refine RC.drawD (fun k => k = b_4 ∨ k = b_5) [2, 3] w23.heap.size 4 rfl rfl mxo (fun w24 s25 => ?_)
    have hNN : ∀ k, ((k = b_4 ∨ k = b_5) ∨ w23.heap.size ≤ k) → w.heap.size ≤ k := fun k e => e.elim (fun e => e.elim (fun e => e ▸ ge_4) (fun e => e ▸ ge_5)) (fun e => Nat.le_trans S.size e)
    have ent_S := S.size
    have hN0 : ∀ k, w23.heap.size ≤ k → w.heap.size ≤ k := fun k e => Nat.le_trans S.size e
    have ltD_b_3 := hb_3.lt
    have ltD_b_4 := hb_4.lt
    have ltD_b_5 := hb_5.lt
    have ltD_b_6 := hb_6.lt
    have ltD_b_2 := hb_2.lt
    have ltD_hF' := fun k hk => (hF'.ge k hk).2
    have szD := Nat.le_refl w23.heap.size
    have S := S.trans s25
    have hb_3 := hb_3.sub s25
    have hb_4 := hb_4.sub s25
    have hb_5 := hb_5.sub s25
    have hb_6 := hb_6.sub s25
    have hb_2 := hb_2.sub s25
    have hF' := hF'.sub s25
    have szD := Nat.le_trans szD s25.size
    refine RD.take 0 rfl (by kernel_rfl) (by kernel_rfl) (by kernel_rfl) (fun w' s' => .loadR ([.slice p'.a1 (doM m o).1.map.length p'.c1, .slice p'.a2 (doM m o).1.tab.length p'.c2, .slice p'.a3 (doM m o).1.row.length p'.c3, .slice p'.a4 (doM m o).1.heap.length p'.c4]) sh38 rfl (hb_2.step s' (fun e => e.elim (fun e => e.elim (fun e => n_2__4 e) (fun e => n_2__5 e)) (fun e => Nat.not_le.2 ltD_b_2 e))).row rfl) rfl rfl ?_
    refine RD.take 1 rfl (by kernel_rfl) (by kernel_rfl) (by kernel_rfl) (fun w' s' => .loadR ([.int .i64 (doM m o).2.e, .int .i64 (doM m o).2.a, .int .i64 (doM m o).2.b]) sh43 rfl (hb_6.step s' (fun e => e.elim (fun e => e.elim (fun e => n_4__6.symm e) (fun e => n_5__6.symm e)) (fun e => Nat.not_le.2 ltD_b_6 e))).row rfl) rfl rfl ?_
    refine RD.all [2] (by kernel_rfl) rfl (RDs.cons rfl ?_ (RDs.nil))
    refine RL.store sh38 rfl rfl rfl hb_4 (by exact Nat.le_of_ble_eq_true rfl) (by rfl) rfl (fun w26 z26 hb_4 a26 => ?_)
    have S := S.upd a26 ge_4
    have hb_3 := hb_3.upd a26 n_3__4
    have hb_5 := hb_5.upd a26 n_4__5.symm
    have hb_6 := hb_6.upd a26 n_4__6.symm
    have hb_2 := hb_2.upd a26 n_2__4
    have hF' := hF'.updD a26 d_hF'_b_4
    have szD := Nat.le_trans szD a26.size
    have hb_4 : Has w26 b_4 ([.slice p'.a1 (doM m o).1.map.length p'.c1, .slice p'.a2 (doM m o).1.tab.length p'.c2, .slice p'.a3 (doM m o).1.row.length p'.c3, .slice p'.a4 (doM m o).1.heap.length p'.c4]) _ := hb_4.now (by kernel_rfl)
    refine RD.backW rfl (a26.mono fun k _ e => e ▸ (.inl (.inl rfl))) ?_
    refine RD.all [3] (by kernel_rfl) rfl (RDs.cons rfl ?_ (RDs.nil))
    refine RL.store sh43 rfl rfl rfl hb_5 (by exact Nat.le_of_ble_eq_true rfl) (by rfl) rfl (fun w27 z27 hb_5 a27 => ?_)
    have S := S.upd a27 ge_5
    have hb_3 := hb_3.upd a27 n_3__5
    have hb_4 := hb_4.upd a27 n_4__5
    have hb_6 := hb_6.upd a27 n_5__6.symm
    have hb_2 := hb_2.upd a27 n_2__5
    have hF' := hF'.updD a27 d_hF'_b_5
    have szD := Nat.le_trans szD a27.size
    have hb_5 : Has w27 b_5 ([.int .i64 (doM m o).2.e, .int .i64 (doM m o).2.a, .int .i64 (doM m o).2.b]) _ := hb_5.now (by kernel_rfl)
    refine RD.backW rfl (a27.mono fun k _ e => e ▸ (.inl (.inr (rfl)))) ?_
    refine RD.done (by kernel_rfl) (RC.back ?_)
    refine RC.done (rs := [.cell 4 38, .cell 5 43]) (vs := [_, _]) rfl rfl ⟨⟨_, rfl, .inr ⟨[.slice p'.a1 (doM m o).1.map.length p'.c1, .slice p'.a2 (doM m o).1.tab.length p'.c2, .slice p'.a3 (doM m o).1.row.length p'.c3, .slice p'.a4 (doM m o).1.heap.length p'.c4], sh38, hb_4.row, rfl⟩⟩, ⟨_, rfl, .inr ⟨[.int .i64 (doM m o).2.e, .int .i64 (doM m o).2.a, .int .i64 (doM m o).2.b], sh43, hb_5.row, rfl⟩⟩, trivial⟩ ?_
    -- end 3
    exact ⟨S, p', M', rfl, hs', hF', hup⟩
end Go.Proofs.Ytlhnnleaiinjaaa
set_option linter.unusedVariables false
set_option linter.unusedSimpArgs false
namespace Go.Proofs.Ytlhnnleaiinjaaa
open Go Go.XL
theorem ints_ext {l m : List Int} {i : Nat} {x y : Int} (hx : l[i]? = some x) (hy : m[i]? = some y) (h : l.take i = m.take i) (e : x = y) : l.take (i + 1) = m.take (i + 1) := by
  rw [List.take_add_one, List.take_add_one, hx, hy, h, e]
end Go.Proofs.Ytlhnnleaiinjaaa
set_option linter.unusedVariables false
set_option linter.unusedSimpArgs false
namespace Go.Proofs.Ytlhnnleaiinjaaa
open Go Go.XL
theorem _root_.Go.XL.Has.is {w : World} {b : Nat} {cs : List Value} {e : TypeId} (h : Has w b cs e) (cs' : List Value) (hc : cs = cs') : Has w b cs' e := hc ▸ h
def p0 : Ph := ⟨none, 0, none, 0, none, 0, none, 0⟩
def m0 : Mo := ⟨[], [], [], []⟩
def res0 : ResT := ⟨0, 0, 0⟩
theorem m0_S : MoS p0 m0 := ⟨Nat.le_refl _, Nat.le_refl _, Nat.le_refl _, Nat.le_refl _, Nat.zero_le _, Nat.zero_le _, Nat.zero_le _, Nat.zero_le _⟩
theorem m0_F (M : Nat → Prop) {w : World} (h : ∀ k, M k → k < w.heap.size) : Ft M (fun u => MoR u p0 m0) w := ⟨h, fun u _ => ⟨Sl.nil _ _ _, Sl.nil _ _ _, Sl.nil _ _ _, Sl.nil _ _ _⟩⟩
/-- an answer: what the containers hold then, what is told, and whether it was refused -/
def AnsDo (M : Nat → Prop) (w w' : World) (m : Mo) (o : OpT) (u : Value) : Prop :=
  Sub w w' ∧ ∃ p' M', u = .tuple #[moV p' (if pB (rightM m ∧ okP o) then (doM m o).1 else m0), .agg (if pB (rightM m ∧ okP o) then (doM m o).2 else res0).cells.toArray, .int .i64 (if pB (rightM m ∧ okP o) then 0 else 1)] ∧ MoS p' (if pB (rightM m ∧ okP o) then (doM m o).1 else m0) ∧ Ft M' (fun u => MoR u p' (if pB (rightM m ∧ okP o) then (doM m o).1 else m0)) w' ∧ Up M w M'
theorem ansDo_yes {M : Nat → Prop} {w w' : World} {m : Mo} {o : OpT} {p' : Ph} {M' : Nat → Prop} {u : Value} (S : Sub w w') (h : rightM m ∧ okP o) (hu : u = .tuple #[moV p' (doM m o).1, .agg (doM m o).2.cells.toArray, .int .i64 0]) (hs : MoS p' (doM m o).1) (hF : Ft M' (fun u => MoR u p' (doM m o).1) w') (hup : Up M w M') : AnsDo M w w' m o u := by
  refine ⟨S, p', M', ?_⟩
  rw [pB_yes h]
  exact ⟨hu, hs, hF, hup⟩
theorem ansDo_no {M : Nat → Prop} {w w' : World} {m : Mo} {o : OpT} {u : Value} {I : World → Prop} (S : Sub w w') (hF : Ft M I w) (h : ¬ (rightM m ∧ okP o)) (hu : u = .tuple #[moV p0 m0, .agg res0.cells.toArray, .int .i64 1]) : AnsDo M w w' m o u := by
  refine ⟨S, p0, M, ?_⟩
  rw [pB_no h]
  exact ⟨hu, m0_S, m0_F M (fun k hk => Nat.lt_of_lt_of_le (hF.lt k hk) S.size), Up.refl _ _⟩
theorem c_Do (p : Ph) (m : Mo) (hs : MoS p m) (o : OpT) (w : World) (M : Nat → Prop) (hF : Ft M (fun u => MoR u p m) w) :
    FC Try.prog 36 [moV p m, .agg o.cells.toArray] w (fun u w' => AnsDo M w w' m o u) := by
  have hF0 := hF
  refine FC.intro Try.func36 rfl Try.ntmps36 rfl ?_
  have S := Sub.refl w
  refine RC.seq ?_
  refine RC.region rfl ?_
  refine RL.box rfl rfl rfl (fun b_2 w_2 e_2 z_2 hb_2 s_2 => ?_)
  have ge_2 := S.le e_2
  have d_hF_b_2 := hF.neNew e_2
  have S := S.trans s_2
  have hF := hF.sub s_2
  have hb_2 : Has w_2 b_2 ([.slice p.a1 m.map.length p.c1, .slice p.a2 m.tab.length p.c2, .slice p.a3 m.row.length p.c3, .slice p.a4 m.heap.length p.c4]) _ := hb_2
  refine RL.box rfl rfl rfl (fun b_3 w_3 e_3 z_3 hb_3 s_3 => ?_)
  have ge_3 := S.le e_3
  have n_2__3 := hb_2.ne e_3
  have d_hF_b_3 := hF.neNew e_3
  have S := S.trans s_3
  have hF := hF.sub s_3
  have hb_2 := hb_2.sub s_3
  have hb_3 : Has w_3 b_3 ([.int .i64 o.box, .int .i64 o.kind, .int .i64 o.a, .int .i64 o.b]) _ := hb_3
  refine RL.alloc ze38 rfl rfl (fun b_4 w_4 e_4 z_4 hb_4 s_4 => ?_)
  have ge_4 := S.le e_4
  have n_2__4 := hb_2.ne e_4
  have n_3__4 := hb_3.ne e_4
  have d_hF_b_4 := hF.neNew e_4
  have S := S.trans s_4
  have hF := hF.sub s_4
  have hb_2 := hb_2.sub s_4
  have hb_3 := hb_3.sub s_4
  refine RL.alloc ze43 rfl rfl (fun b_5 w_5 e_5 z_5 hb_5 s_5 => ?_)
  have ge_5 := S.le e_5
  have n_2__5 := hb_2.ne e_5
  have n_3__5 := hb_3.ne e_5
  have n_4__5 := hb_4.ne e_5
  have d_hF_b_5 := hF.neNew e_5
  have S := S.trans s_5
  have hF := hF.sub s_5
  have hb_2 := hb_2.sub s_5
  have hb_3 := hb_3.sub s_5
  have hb_4 := hb_4.sub s_5
  refine RL.ev (.assign rfl) rfl rfl ?_
  refine RL.nil (RC.back ?_)
  refine RC.seq ?_
  refine RC.seq ?_
  refine RC.region rfl ?_
  refine RL.ev (.loadR ([.slice p.a1 m.map.length p.c1, .slice p.a2 m.tab.length p.c2, .slice p.a3 m.row.length p.c3, .slice p.a4 m.heap.length p.c4]) sh38 rfl hb_2.row rfl) rfl rfl ?_
  refine RL.call rfl ok46 (c_right p m hs w_5 hF.now) rfl rfl ?_
  rintro _ w1 ⟨rfl, s2⟩
  have S := S.trans s2
  have hF := hF.sub s2
  have hb_2 := hb_2.sub s2
  have hb_3 := hb_3.sub s2
  have hb_4 := hb_4.sub s2
  have hb_5 := hb_5.sub s2
  refine RL.ev (.not rfl) rfl rfl ?_
  refine RL.ev (.move rfl) rfl rfl ?_
  refine RL.splitB 11 rfl (fun h3 => ?_) (fun h3 => ?_)
  ·
    have g11 : ¬ rightM m := (fun e => by rw [pB_yes e] at h3; cases h3)
    refine RL.off rfl rfl ?_
    refine RL.off rfl rfl ?_
    refine RL.off rfl rfl ?_
    refine RL.ev (.pick_t rfl rfl) rfl rfl ?_
    refine RL.nil (RC.back ?_)
    refine RC.cond_t rfl ?_
    refine RC.seq ?_
    refine RC.region rfl ?_
    refine RL.ev (.as (v' := .agg #[.slice none 0 0, .slice none 0 0, .slice none 0 0, .slice none 0 0]) (.buildS ze38 pl38 rfl rfl) (by kernel_rfl)) rfl rfl ?_
    refine RL.ev (.as (v' := .agg #[.int .i64 0, .int .i64 0, .int .i64 0]) (.buildS ze43 pl43 rfl rfl) (by kernel_rfl)) rfl rfl ?_
    refine RL.store sh38 rfl rfl rfl hb_4 (by exact Nat.le_of_ble_eq_true rfl) (by rfl) rfl (fun w4 z4 hb_4 a4 => ?_)
    have S := S.upd a4 ge_4
    have hF := hF.updD a4 d_hF_b_4
    have hb_2 := hb_2.upd a4 n_2__4
    have hb_3 := hb_3.upd a4 n_3__4
    have hb_5 := hb_5.upd a4 n_4__5.symm
    have hb_4 : Has w4 b_4 ([.slice none 0 0, .slice none 0 0, .slice none 0 0, .slice none 0 0]) _ := hb_4.now (by kernel_rfl)
    refine RL.store sh43 rfl rfl rfl hb_5 (by exact Nat.le_of_ble_eq_true rfl) (by rfl) rfl (fun w5 z5 hb_5 a5 => ?_)
    have S := S.upd a5 ge_5
    have hF := hF.updD a5 d_hF_b_5
    have hb_2 := hb_2.upd a5 n_2__5
    have hb_3 := hb_3.upd a5 n_3__5
    have hb_4 := hb_4.upd a5 n_4__5
    have hb_5 : Has w5 b_5 ([.int .i64 0, .int .i64 0, .int .i64 0]) _ := hb_5.now (by kernel_rfl)
    refine RL.ev (.assign rfl) rfl rfl ?_
    refine RL.nil (RC.back ?_)
    refine RC.done (rs := [.cell 4 38, .cell 5 43, .tmp 6]) (vs := [_, _, _]) rfl rfl ⟨⟨_, rfl, .inr ⟨[.slice none 0 0, .slice none 0 0, .slice none 0 0, .slice none 0 0], sh38, hb_4.row, rfl⟩⟩, ⟨_, rfl, .inr ⟨[.int .i64 0, .int .i64 0, .int .i64 0], sh43, hb_5.row, rfl⟩⟩, rfl, trivial⟩ ?_
    -- end 1
    exact ansDo_no S hF0 (fun e => g11 e.1) rfl
  ·
    have g11 : rightM m := (by have q := h3; rw [Bool.not_eq_false'] at q; exact pB_iff.1 q)
    refine RL.ev (.loadR ([.int .i64 o.box, .int .i64 o.kind, .int .i64 o.a, .int .i64 o.b]) sh40 rfl hb_3.row rfl) rfl rfl ?_
    refine RL.call rfl ok27 (c_opRight o w1) rfl rfl ?_
    rintro _ w6 ⟨rfl, s7⟩
    have S := S.trans s7
    have hF := hF.sub s7
    have hb_2 := hb_2.sub s7
    have hb_3 := hb_3.sub s7
    have hb_4 := hb_4.sub s7
    have hb_5 := hb_5.sub s7
    refine RL.ev (.not rfl) rfl rfl ?_
    refine RL.ev (.pick_f rfl rfl) rfl rfl ?_
    refine RL.nil (RC.back ?_)
    refine RC.cond rfl (fun h8 => ?_) (fun h8 => ?_)
    ·
      have g15 : ¬ (rightM m ∧ okP o) := (fun e => by have q := h8; simp [e.2] at q)
      refine RC.seq ?_
      refine RC.region rfl ?_
      refine RL.ev (.as (v' := .agg #[.slice none 0 0, .slice none 0 0, .slice none 0 0, .slice none 0 0]) (.buildS ze38 pl38 rfl rfl) (by kernel_rfl)) rfl rfl ?_
      refine RL.ev (.as (v' := .agg #[.int .i64 0, .int .i64 0, .int .i64 0]) (.buildS ze43 pl43 rfl rfl) (by kernel_rfl)) rfl rfl ?_
      refine RL.store sh38 rfl rfl rfl hb_4 (by exact Nat.le_of_ble_eq_true rfl) (by rfl) rfl (fun w9 z9 hb_4 a9 => ?_)
      have S := S.upd a9 ge_4
      have hF := hF.updD a9 d_hF_b_4
      have hb_2 := hb_2.upd a9 n_2__4
      have hb_3 := hb_3.upd a9 n_3__4
      have hb_5 := hb_5.upd a9 n_4__5.symm
      have hb_4 : Has w9 b_4 ([.slice none 0 0, .slice none 0 0, .slice none 0 0, .slice none 0 0]) _ := hb_4.now (by kernel_rfl)
      refine RL.store sh43 rfl rfl rfl hb_5 (by exact Nat.le_of_ble_eq_true rfl) (by rfl) rfl (fun w10 z10 hb_5 a10 => ?_)
      have S := S.upd a10 ge_5
      have hF := hF.updD a10 d_hF_b_5
      have hb_2 := hb_2.upd a10 n_2__5
      have hb_3 := hb_3.upd a10 n_3__5
      have hb_4 := hb_4.upd a10 n_4__5
      have hb_5 : Has w10 b_5 ([.int .i64 0, .int .i64 0, .int .i64 0]) _ := hb_5.now (by kernel_rfl)
      refine RL.ev (.assign rfl) rfl rfl ?_
      refine RL.nil (RC.back ?_)
      refine RC.done (rs := [.cell 4 38, .cell 5 43, .tmp 6]) (vs := [_, _, _]) rfl rfl ⟨⟨_, rfl, .inr ⟨[.slice none 0 0, .slice none 0 0, .slice none 0 0, .slice none 0 0], sh38, hb_4.row, rfl⟩⟩, ⟨_, rfl, .inr ⟨[.int .i64 0, .int .i64 0, .int .i64 0], sh43, hb_5.row, rfl⟩⟩, rfl, trivial⟩ ?_
      -- end 2
      exact ansDo_no S hF0 g15 rfl
    ·
      have g15 : okP o := (by have q := h8; simpa using q)
      refine RC.skip (RC.back ?_)
      refine RC.seq ?_
      refine RC.region rfl ?_
      refine RL.ev (.loadR ([.slice p.a1 m.map.length p.c1, .slice p.a2 m.tab.length p.c2, .slice p.a3 m.row.length p.c3, .slice p.a4 m.heap.length p.c4]) sh38 rfl hb_2.row rfl) rfl rfl ?_
      refine RL.ev (.loadR ([.int .i64 o.box, .int .i64 o.kind, .int .i64 o.a, .int .i64 o.b]) sh40 rfl hb_3.row rfl) rfl rfl ?_
      refine RL.call rfl ok47 (c_do p m hs g11 o g15 w6 M hF) rfl rfl ?_
      rintro _ w11 ⟨s12, p', M', rfl, hs', hF', hup⟩
      have d_hF'_b_2 := upNe hup d_hF_b_2 hb_2.lt
      have d_hF'_b_3 := upNe hup d_hF_b_3 hb_3.lt
      have d_hF'_b_4 := upNe hup d_hF_b_4 hb_4.lt
      have d_hF'_b_5 := upNe hup d_hF_b_5 hb_5.lt
      have hup := hup.le S.size
      have S := S.trans s12
      have hF := hF.sub s12
      have hb_2 := hb_2.sub s12
      have hb_3 := hb_3.sub s12
      have hb_4 := hb_4.sub s12
      have hb_5 := hb_5.sub s12
      refine RL.ev (.move rfl) rfl rfl ?_
      refine RL.ev (.extract rfl rfl) rfl rfl ?_
      refine RL.ev (.extract rfl rfl) rfl rfl ?_
      refine RL.alloc ze43 rfl rfl (fun b_7 w_7 e_7 z_7 hb_7 s_7 => ?_)
      have ge_7 := S.le e_7
      have n_2__7 := hb_2.ne e_7
      have n_3__7 := hb_3.ne e_7
      have n_4__7 := hb_4.ne e_7
      have n_5__7 := hb_5.ne e_7
      have d_hF'_b_7 := hF'.neNew e_7
      have S := S.trans s_7
      have hb_2 := hb_2.sub s_7
      have hb_3 := hb_3.sub s_7
      have hb_4 := hb_4.sub s_7
      have hb_5 := hb_5.sub s_7
      have hF' := hF'.sub s_7
      refine RL.store sh38 rfl rfl rfl hb_2 (by exact Nat.le_of_ble_eq_true rfl) (by rfl) rfl (fun w13 z13 hb_2 a13 => ?_)
      have S := S.upd a13 ge_2
      have hb_3 := hb_3.upd a13 n_2__3.symm
      have hb_4 := hb_4.upd a13 n_2__4.symm
      have hb_5 := hb_5.upd a13 n_2__5.symm
      have hF' := hF'.updD a13 d_hF'_b_2
      have hb_7 := hb_7.upd a13 n_2__7.symm
      have hb_2 : Has w13 b_2 ([.slice p'.a1 (doM m o).1.map.length p'.c1, .slice p'.a2 (doM m o).1.tab.length p'.c2, .slice p'.a3 (doM m o).1.row.length p'.c3, .slice p'.a4 (doM m o).1.heap.length p'.c4]) _ := hb_2.now (by kernel_rfl)
      refine RL.store sh43 rfl rfl rfl hb_7 (by exact Nat.le_of_ble_eq_true rfl) (by rfl) rfl (fun w14 z14 hb_7 a14 => ?_)
      have S := S.upd a14 ge_7
      have hb_2 := hb_2.upd a14 n_2__7
      have hb_3 := hb_3.upd a14 n_3__7
      have hb_4 := hb_4.upd a14 n_4__7
      have hb_5 := hb_5.upd a14 n_5__7
      have hF' := hF'.updD a14 d_hF'_b_7
      have hb_7 : Has w14 b_7 ([.int .i64 (doM m o).2.e, .int .i64 (doM m o).2.a, .int .i64 (doM m o).2.b]) _ := hb_7.now (by kernel_rfl)
      refine RL.nil (RC.back ?_)
      refine RC.seq ?_
      refine RC.drawD (fun k => k = b_4 ∨ k = b_5) [2, 3] w14.heap.size 5 rfl rfl mxo (fun w15 s16 => ?_)
      have hNN : ∀ k, ((k = b_4 ∨ k = b_5) ∨ w14.heap.size ≤ k) → w.heap.size ≤ k := fun k e => e.elim (fun e => e.elim (fun e => e ▸ ge_4) (fun e => e ▸ ge_5)) (fun e => Nat.le_trans S.size e)
      have ent_S := S.size
      have hN0 : ∀ k, w14.heap.size ≤ k → w.heap.size ≤ k := fun k e => Nat.le_trans S.size e
      have ltD_b_2 := hb_2.lt
      have ltD_b_3 := hb_3.lt
      have ltD_b_4 := hb_4.lt
      have ltD_b_5 := hb_5.lt
      have ltD_hF' := fun k hk => (hF'.ge k hk).2
      have ltD_b_7 := hb_7.lt
      have szD := Nat.le_refl w14.heap.size
      have S := S.trans s16
      have hb_2 := hb_2.sub s16
      have hb_3 := hb_3.sub s16
      have hb_4 := hb_4.sub s16
      have hb_5 := hb_5.sub s16
      have hF' := hF'.sub s16
      have hb_7 := hb_7.sub s16
      have szD := Nat.le_trans szD s16.size
      refine RD.take 0 rfl (by kernel_rfl) (by kernel_rfl) (by kernel_rfl) (fun w' s' => .loadR ([.slice p'.a1 (doM m o).1.map.length p'.c1, .slice p'.a2 (doM m o).1.tab.length p'.c2, .slice p'.a3 (doM m o).1.row.length p'.c3, .slice p'.a4 (doM m o).1.heap.length p'.c4]) sh38 rfl (hb_2.step s' (fun e => e.elim (fun e => e.elim (fun e => n_2__4 e) (fun e => n_2__5 e)) (fun e => Nat.not_le.2 ltD_b_2 e))).row rfl) rfl rfl ?_
      refine RD.take 1 rfl (by kernel_rfl) (by kernel_rfl) (by kernel_rfl) (fun w' s' => .loadR ([.int .i64 (doM m o).2.e, .int .i64 (doM m o).2.a, .int .i64 (doM m o).2.b]) sh43 rfl (hb_7.step s' (fun e => e.elim (fun e => e.elim (fun e => n_4__7.symm e) (fun e => n_5__7.symm e)) (fun e => Nat.not_le.2 ltD_b_7 e))).row rfl) rfl rfl ?_
      refine RD.all [2] (by kernel_rfl) rfl (RDs.cons rfl ?_ (RDs.nil))
      refine RL.store sh38 rfl rfl rfl hb_4 (by exact Nat.le_of_ble_eq_true rfl) (by rfl) rfl (fun w17 z17 hb_4 a17 => ?_)
      have S := S.upd a17 ge_4
      have hb_2 := hb_2.upd a17 n_2__4
      have hb_3 := hb_3.upd a17 n_3__4
      have hb_5 := hb_5.upd a17 n_4__5.symm
      have hF' := hF'.updD a17 d_hF'_b_4
      have hb_7 := hb_7.upd a17 n_4__7.symm
      have szD := Nat.le_trans szD a17.size
      have hb_4 : Has w17 b_4 ([.slice p'.a1 (doM m o).1.map.length p'.c1, .slice p'.a2 (doM m o).1.tab.length p'.c2, .slice p'.a3 (doM m o).1.row.length p'.c3, .slice p'.a4 (doM m o).1.heap.length p'.c4]) _ := hb_4.now (by kernel_rfl)
      refine RD.backW rfl (a17.mono fun k _ e => e ▸ (.inl (.inl rfl))) ?_
      refine RD.all [3] (by kernel_rfl) rfl (RDs.cons rfl ?_ (RDs.nil))
      refine RL.store sh43 rfl rfl rfl hb_5 (by exact Nat.le_of_ble_eq_true rfl) (by rfl) rfl (fun w18 z18 hb_5 a18 => ?_)
      have S := S.upd a18 ge_5
      have hb_2 := hb_2.upd a18 n_2__5
      have hb_3 := hb_3.upd a18 n_3__5
      have hb_4 := hb_4.upd a18 n_4__5
      have hF' := hF'.updD a18 d_hF'_b_5
      have hb_7 := hb_7.upd a18 n_5__7.symm
      have szD := Nat.le_trans szD a18.size
      have hb_5 : Has w18 b_5 ([.int .i64 (doM m o).2.e, .int .i64 (doM m o).2.a, .int .i64 (doM m o).2.b]) _ := hb_5.now (by kernel_rfl)
      refine RD.backW rfl (a18.mono fun k _ e => e ▸ (.inl (.inr (rfl)))) ?_
      refine RD.take 4 rfl (by kernel_rfl) (by kernel_rfl) (by kernel_rfl) (fun w' s' => .assign rfl) rfl rfl ?_
      refine RD.done (by kernel_rfl) (RC.back ?_)
      refine RC.done (rs := [.cell 4 38, .cell 5 43, .tmp 6]) (vs := [_, _, _]) rfl rfl ⟨⟨_, rfl, .inr ⟨[.slice p'.a1 (doM m o).1.map.length p'.c1, .slice p'.a2 (doM m o).1.tab.length p'.c2, .slice p'.a3 (doM m o).1.row.length p'.c3, .slice p'.a4 (doM m o).1.heap.length p'.c4], sh38, hb_4.row, rfl⟩⟩, ⟨_, rfl, .inr ⟨[.int .i64 (doM m o).2.e, .int .i64 (doM m o).2.a, .int .i64 (doM m o).2.b], sh43, hb_5.row, rfl⟩⟩, rfl, trivial⟩ ?_
      -- end 3
      exact ansDo_yes S ⟨g11, g15⟩ rfl hs' hF' hup
/-- an answer of the reference -/
def moT (p : Ph) (m : Mo) (r : ResT) : List Value := [.slice p.a1 m.map.length p.c1, .slice p.a2 m.tab.length p.c2, .slice p.a3 m.row.length p.c3, .slice p.a4 m.heap.length p.c4, .int .i64 r.e, .int .i64 r.a, .int .i64 r.b]
def AnsT (M : Nat → Prop) (w w' : World) (q : Mo × ResT) (u : Value) : Prop := Sub w w' ∧ ∃ p' M', u = .agg (moT p' q.1 q.2).toArray ∧ MoS p' q.1 ∧ Ft M' (fun u => MoR u p' q.1) w' ∧ Up M w M'
theorem c_refDo (p : Ph) (m : Mo) (hs : MoS p m) (hR : rightM m) (o : OpT) (hok : okP o) (w : World) (M : Nat → Prop) (hF : Ft M (fun u => MoR u p m) w) :
    FC Try.prog 16 [moV p m, .agg o.cells.toArray] w (fun u w' => AnsT M w w' (doM m o) u) := by
  have hRd := rightM_do hR hok
  obtain ⟨h1, h2, h3, h4, h5, h6, h7, h8⟩ := (rightM_iff m).1 hR
  have hbx := box_cases hok
  refine FC.intro Try.func16 rfl Try.ntmps16 rfl ?_
  have S := Sub.refl w
  refine RC.seq ?_
  refine RC.region rfl ?_
  refine RL.box rfl rfl rfl (fun b_2 w_2 e_2 z_2 hb_2 s_2 => ?_)
  have ge_2 := S.le e_2
  have d_hF_b_2 := hF.neNew e_2
  have S := S.trans s_2
  have hF := hF.sub s_2
  have hb_2 : Has w_2 b_2 ([.slice p.a1 m.map.length p.c1, .slice p.a2 m.tab.length p.c2, .slice p.a3 m.row.length p.c3, .slice p.a4 m.heap.length p.c4]) _ := hb_2
  refine RL.box rfl rfl rfl (fun b_3 w_3 e_3 z_3 hb_3 s_3 => ?_)
  have ge_3 := S.le e_3
  have n_2__3 := hb_2.ne e_3
  have d_hF_b_3 := hF.neNew e_3
  have S := S.trans s_3
  have hF := hF.sub s_3
  have hb_2 := hb_2.sub s_3
  have hb_3 : Has w_3 b_3 ([.int .i64 o.box, .int .i64 o.kind, .int .i64 o.a, .int .i64 o.b]) _ := hb_3
  refine RL.alloc ze45 rfl rfl (fun b_4 w_4 e_4 z_4 hb_4 s_4 => ?_)
  have ge_4 := S.le e_4
  have n_2__4 := hb_2.ne e_4
  have n_3__4 := hb_3.ne e_4
  have d_hF_b_4 := hF.neNew e_4
  have S := S.trans s_4
  have hF := hF.sub s_4
  have hb_2 := hb_2.sub s_4
  have hb_3 := hb_3.sub s_4
  refine RL.nil (RC.back ?_)
  refine RC.seq ?_
  refine RC.region rfl ?_
  refine RL.ev (.loadR ([.slice p.a1 m.map.length p.c1, .slice p.a2 m.tab.length p.c2, .slice p.a3 m.row.length p.c3, .slice p.a4 m.heap.length p.c4]) sh38 rfl hb_2.row rfl) rfl rfl ?_
  refine RL.ev (.as (v' := .agg #[.slice p.a1 m.map.length p.c1, .slice p.a2 m.tab.length p.c2, .slice p.a3 m.row.length p.c3, .slice p.a4 m.heap.length p.c4, .int .i64 0, .int .i64 0, .int .i64 0]) (.buildS ze45 pl45 rfl rfl) (by kernel_rfl)) rfl rfl ?_
  refine RL.alloc ze45 rfl rfl (fun b_5 w_5 e_5 z_5 hb_5 s_5 => ?_)
  have ge_5 := S.le e_5
  have n_2__5 := hb_2.ne e_5
  have n_3__5 := hb_3.ne e_5
  have n_4__5 := hb_4.ne e_5
  have d_hF_b_5 := hF.neNew e_5
  have S := S.trans s_5
  have hF := hF.sub s_5
  have hb_2 := hb_2.sub s_5
  have hb_3 := hb_3.sub s_5
  have hb_4 := hb_4.sub s_5
  refine RL.store sh45 rfl rfl rfl hb_5 (by exact Nat.le_of_ble_eq_true rfl) (by rfl) rfl (fun w1 z1 hb_5 a1 => ?_)
  have S := S.upd a1 ge_5
  have hF := hF.updD a1 d_hF_b_5
  have hb_2 := hb_2.upd a1 n_2__5
  have hb_3 := hb_3.upd a1 n_3__5
  have hb_4 := hb_4.upd a1 n_4__5
  have hb_5 : Has w1 b_5 ([.slice p.a1 m.map.length p.c1, .slice p.a2 m.tab.length p.c2, .slice p.a3 m.row.length p.c3, .slice p.a4 m.heap.length p.c4, .int .i64 0, .int .i64 0, .int .i64 0]) _ := hb_5.now (by kernel_rfl)
  refine RL.nil (RC.back ?_)
  refine RC.seq ?_
  refine RC.seq ?_
  refine RC.region rfl ?_
  refine RL.ev (.field0 fo40_0 rfl) rfl rfl ?_
  refine RL.ev (.load1 sh3 rfl (hb_3.cell rfl)) rfl rfl ?_
  refine RL.nil (RC.back ?_)
  refine RC.block ?_
  refine RC.seq ?_
  refine RC.region rfl ?_
  refine RL.ev (.bin rfl rfl rfl) rfl rfl ?_
  refine RL.ev (.assign rfl) rfl rfl ?_
  refine RL.nil (RC.back ?_)
  refine RC.cond_dec rfl (fun h2 => ?_) (fun h2 => ?_)
  ·
    have g14 : o.box = 1 := h2
    refine RC.seq ?_
    refine RC.region rfl ?_
    refine RL.ev (.field0 fo38_0 rfl) rfl rfl ?_
    refine RL.ev (.load1 sh35 rfl (hb_2.cell rfl)) rfl rfl ?_
    refine RL.ev (.loadR ([.int .i64 o.box, .int .i64 o.kind, .int .i64 o.a, .int .i64 o.b]) sh40 rfl hb_3.row rfl) rfl rfl ?_
    refine RL.call rfl ok31 (c_refPairs m.map p.a1 p.c1 _ rfl h7 h3.2 hs.k1 o hok w1 M (hF.imp fun u h => h.h1)) rfl rfl ?_
    rintro _ w3 ⟨s4, a', c', M', rfl, hc', hF', hup⟩
    have d_hF'_b_2 := upNe hup d_hF_b_2 hb_2.lt
    have d_hF'_b_3 := upNe hup d_hF_b_3 hb_3.lt
    have d_hF'_b_4 := upNe hup d_hF_b_4 hb_4.lt
    have d_hF'_b_5 := upNe hup d_hF_b_5 hb_5.lt
    have hup := hup.le S.size
    have S := S.trans s4
    have hF := hF.sub s4
    have hb_2 := hb_2.sub s4
    have hb_3 := hb_3.sub s4
    have hb_4 := hb_4.sub s4
    have hb_5 := hb_5.sub s4
    refine RL.alloc ze64 rfl rfl (fun b_6 w_6 e_6 z_6 hb_6 s_6 => ?_)
    have ge_6 := S.le e_6
    have n_2__6 := hb_2.ne e_6
    have n_3__6 := hb_3.ne e_6
    have n_4__6 := hb_4.ne e_6
    have n_5__6 := hb_5.ne e_6
    have d_hF_b_6 := hF.neNew e_6
    have d_hF'_b_6 := hF'.neNew e_6
    have S := S.trans s_6
    have hF := hF.sub s_6
    have hb_2 := hb_2.sub s_6
    have hb_3 := hb_3.sub s_6
    have hb_4 := hb_4.sub s_6
    have hb_5 := hb_5.sub s_6
    have hF' := hF'.sub s_6
    refine RL.store sh64 rfl rfl rfl hb_6 (by exact Nat.le_of_ble_eq_true rfl) (by rfl) rfl (fun w5 z5 hb_6 a5 => ?_)
    have S := S.upd a5 ge_6
    have hF := hF.updD a5 d_hF_b_6
    have hb_2 := hb_2.upd a5 n_2__6
    have hb_3 := hb_3.upd a5 n_3__6
    have hb_4 := hb_4.upd a5 n_4__6
    have hb_5 := hb_5.upd a5 n_5__6
    have hF' := hF'.updD a5 d_hF'_b_6
    have hb_6 : Has w5 b_6 ([.slice a' (pairsM m.map o).1.length c', .int .i64 (pairsM m.map o).2.e, .int .i64 (pairsM m.map o).2.a, .int .i64 (pairsM m.map o).2.b]) _ := hb_6.now (by kernel_rfl)
    refine RL.nil (RC.back ?_)
    refine RC.seq ?_
    refine RC.region rfl ?_
    refine RL.ev (.field0 fo64_0 rfl) rfl rfl ?_
    refine RL.ev (.load1 sh35 rfl (hb_6.cell rfl)) rfl rfl ?_
    refine RL.ev (.field0 fo45_0 rfl) rfl rfl ?_
    refine RL.ev (.field0 fo38_0 rfl) rfl rfl ?_
    refine RL.store sh35 rfl rfl rfl hb_5 (by exact Nat.le_of_ble_eq_true rfl) (by rfl) rfl (fun w6 z6 hb_5 a6 => ?_)
    have S := S.upd a6 ge_5
    have hF := hF.updD a6 d_hF_b_5
    have hb_2 := hb_2.upd a6 n_2__5
    have hb_3 := hb_3.upd a6 n_3__5
    have hb_4 := hb_4.upd a6 n_4__5
    have hF' := hF'.updD a6 d_hF'_b_5
    have hb_6 := hb_6.upd a6 n_5__6.symm
    have hb_5 : Has w6 b_5 ([.slice a' (pairsM m.map o).1.length c', .slice p.a2 m.tab.length p.c2, .slice p.a3 m.row.length p.c3, .slice p.a4 m.heap.length p.c4, .int .i64 0, .int .i64 0, .int .i64 0]) _ := hb_5
    refine RL.nil (RC.back ?_)
    refine RC.region rfl ?_
    refine RL.ev (.field0 fo64_1 rfl) rfl rfl ?_
    refine RL.ev (.loadR ([.int .i64 (pairsM m.map o).2.e, .int .i64 (pairsM m.map o).2.a, .int .i64 (pairsM m.map o).2.b]) sh43 rfl (Has.row_at (pre := [.slice a' (pairsM m.map o).1.length c']) (post := []) hb_6 rfl) rfl) rfl rfl ?_
    refine RL.ev (.field0 fo45_1 rfl) rfl rfl ?_
    refine RL.store sh43 rfl rfl rfl hb_5 (by exact Nat.le_of_ble_eq_true rfl) (by rfl) rfl (fun w7 z7 hb_5 a7 => ?_)
    have S := S.upd a7 ge_5
    have hF := hF.updD a7 d_hF_b_5
    have hb_2 := hb_2.upd a7 n_2__5
    have hb_3 := hb_3.upd a7 n_3__5
    have hb_4 := hb_4.upd a7 n_4__5
    have hF' := hF'.updD a7 d_hF'_b_5
    have hb_6 := hb_6.upd a7 n_5__6.symm
    have hb_5 := Has.is hb_5 (moT { p with a1 := a', c1 := c' } { m with map := (pairsM m.map o).1 } (pairsM m.map o).2) rfl
    refine RL.nil (RC.back ?_)
    refine RC.seq ?_
    refine RC.region rfl ?_
    refine RL.ev (.loadR (moT { p with a1 := a', c1 := c' } { m with map := (pairsM m.map o).1 } (pairsM m.map o).2) sh45 rfl hb_5.row rfl) rfl rfl ?_
    refine RL.store sh45 rfl rfl rfl hb_4 (by exact Nat.le_of_ble_eq_true rfl) (by rfl) rfl (fun w8 z8 hb_4 a8 => ?_)
    have S := S.upd a8 ge_4
    have hF := hF.updD a8 d_hF_b_4
    have hb_2 := hb_2.upd a8 n_2__4
    have hb_3 := hb_3.upd a8 n_3__4
    have hb_5 := hb_5.upd a8 n_4__5.symm
    have hF' := hF'.updD a8 d_hF'_b_4
    have hb_6 := hb_6.upd a8 n_4__6.symm
    have hb_4 : Has w8 b_4 (moT { p with a1 := a', c1 := c' } { m with map := (pairsM m.map o).1 } (pairsM m.map o).2) _ := hb_4.now (by kernel_rfl)
    refine RL.nil (RC.back ?_)
    refine RC.done (rs := [.cell 4 45]) (vs := [_]) rfl rfl ⟨⟨_, rfl, .inr ⟨moT { p with a1 := a', c1 := c' } { m with map := (pairsM m.map o).1 } (pairsM m.map o).2, sh45, hb_4.row, rfl⟩⟩, trivial⟩ ?_
    -- end 1
    have hd : doM m o = ({ m with map := (pairsM m.map o).1 }, (pairsM m.map o).2) := (by unfold doM; rw [if_pos g14])
    rw [hd] at hRd ⊢
    have hl : ∀ k, (M k ∨ M' k) → k < w8.heap.size := (fun k hk => hk.elim (hF.lt k) (hF'.lt k))
    exact ⟨S, { p with a1 := a', c1 := c' }, fun k => M k ∨ M' k, rfl, MoS.of hc' hs.k2 hs.k3 hs.k4 hRd, Ft.all (p := { p with a1 := a', c1 := c' }) (hF'.wid hl fun _ h => .inr h) ((hF.imp fun u h => h.h2).wid hl fun _ h => .inl h) ((hF.imp fun u h => h.h3).wid hl fun _ h => .inl h) ((hF.imp fun u h => h.h4).wid hl fun _ h => .inl h), (Up.refl _ _).or hup⟩
  ·
    have g14 : ¬ o.box = 1 := h2
    refine RC.seq ?_
    refine RC.region rfl ?_
    refine RL.ev (.bin rfl rfl rfl) rfl rfl ?_
    refine RL.ev (.assign rfl) rfl rfl ?_
    refine RL.nil (RC.back ?_)
    refine RC.cond_dec rfl (fun h9 => ?_) (fun h9 => ?_)
    ·
      have g27 : o.box = 2 := h9
      refine RC.seq ?_
      refine RC.region rfl ?_
      refine RL.ev (.field0 fo38_1 rfl) rfl rfl ?_
      refine RL.ev (.load1 sh35 rfl (hb_2.cell rfl)) rfl rfl ?_
      refine RL.ev (.loadR ([.int .i64 o.box, .int .i64 o.kind, .int .i64 o.a, .int .i64 o.b]) sh40 rfl hb_3.row rfl) rfl rfl ?_
      refine RL.call rfl ok31 (c_refPairs m.tab p.a2 p.c2 _ rfl h8 h4.2 hs.k2 o hok w1 M (hF.imp fun u h => h.h2)) rfl rfl ?_
      rintro _ w10 ⟨s11, a', c', M', rfl, hc', hF', hup⟩
      have d_hF'_b_2 := upNe hup d_hF_b_2 hb_2.lt
      have d_hF'_b_3 := upNe hup d_hF_b_3 hb_3.lt
      have d_hF'_b_4 := upNe hup d_hF_b_4 hb_4.lt
      have d_hF'_b_5 := upNe hup d_hF_b_5 hb_5.lt
      have hup := hup.le S.size
      have S := S.trans s11
      have hF := hF.sub s11
      have hb_2 := hb_2.sub s11
      have hb_3 := hb_3.sub s11
      have hb_4 := hb_4.sub s11
      have hb_5 := hb_5.sub s11
      refine RL.alloc ze64 rfl rfl (fun b_7 w_7 e_7 z_7 hb_7 s_7 => ?_)
      have ge_7 := S.le e_7
      have n_2__7 := hb_2.ne e_7
      have n_3__7 := hb_3.ne e_7
      have n_4__7 := hb_4.ne e_7
      have n_5__7 := hb_5.ne e_7
      have d_hF_b_7 := hF.neNew e_7
      have d_hF'_b_7 := hF'.neNew e_7
      have S := S.trans s_7
      have hF := hF.sub s_7
      have hb_2 := hb_2.sub s_7
      have hb_3 := hb_3.sub s_7
      have hb_4 := hb_4.sub s_7
      have hb_5 := hb_5.sub s_7
      have hF' := hF'.sub s_7
      refine RL.store sh64 rfl rfl rfl hb_7 (by exact Nat.le_of_ble_eq_true rfl) (by rfl) rfl (fun w12 z12 hb_7 a12 => ?_)
      have S := S.upd a12 ge_7
      have hF := hF.updD a12 d_hF_b_7
      have hb_2 := hb_2.upd a12 n_2__7
      have hb_3 := hb_3.upd a12 n_3__7
      have hb_4 := hb_4.upd a12 n_4__7
      have hb_5 := hb_5.upd a12 n_5__7
      have hF' := hF'.updD a12 d_hF'_b_7
      have hb_7 : Has w12 b_7 ([.slice a' (pairsM m.tab o).1.length c', .int .i64 (pairsM m.tab o).2.e, .int .i64 (pairsM m.tab o).2.a, .int .i64 (pairsM m.tab o).2.b]) _ := hb_7.now (by kernel_rfl)
      refine RL.nil (RC.back ?_)
      refine RC.seq ?_
      refine RC.region rfl ?_
      refine RL.ev (.field0 fo64_0 rfl) rfl rfl ?_
      refine RL.ev (.load1 sh35 rfl (hb_7.cell rfl)) rfl rfl ?_
      refine RL.ev (.field0 fo45_0 rfl) rfl rfl ?_
      refine RL.ev (.field0 fo38_1 rfl) rfl rfl ?_
      refine RL.store sh35 rfl rfl rfl hb_5 (by exact Nat.le_of_ble_eq_true rfl) (by rfl) rfl (fun w13 z13 hb_5 a13 => ?_)
      have S := S.upd a13 ge_5
      have hF := hF.updD a13 d_hF_b_5
      have hb_2 := hb_2.upd a13 n_2__5
      have hb_3 := hb_3.upd a13 n_3__5
      have hb_4 := hb_4.upd a13 n_4__5
      have hF' := hF'.updD a13 d_hF'_b_5
      have hb_7 := hb_7.upd a13 n_5__7.symm
      have hb_5 : Has w13 b_5 ([.slice p.a1 m.map.length p.c1, .slice a' (pairsM m.tab o).1.length c', .slice p.a3 m.row.length p.c3, .slice p.a4 m.heap.length p.c4, .int .i64 0, .int .i64 0, .int .i64 0]) _ := hb_5
      refine RL.nil (RC.back ?_)
      refine RC.region rfl ?_
      refine RL.ev (.field0 fo64_1 rfl) rfl rfl ?_
      refine RL.ev (.loadR ([.int .i64 (pairsM m.tab o).2.e, .int .i64 (pairsM m.tab o).2.a, .int .i64 (pairsM m.tab o).2.b]) sh43 rfl (Has.row_at (pre := [.slice a' (pairsM m.tab o).1.length c']) (post := []) hb_7 rfl) rfl) rfl rfl ?_
      refine RL.ev (.field0 fo45_1 rfl) rfl rfl ?_
      refine RL.store sh43 rfl rfl rfl hb_5 (by exact Nat.le_of_ble_eq_true rfl) (by rfl) rfl (fun w14 z14 hb_5 a14 => ?_)
      have S := S.upd a14 ge_5
      have hF := hF.updD a14 d_hF_b_5
      have hb_2 := hb_2.upd a14 n_2__5
      have hb_3 := hb_3.upd a14 n_3__5
      have hb_4 := hb_4.upd a14 n_4__5
      have hF' := hF'.updD a14 d_hF'_b_5
      have hb_7 := hb_7.upd a14 n_5__7.symm
      have hb_5 := Has.is hb_5 (moT { p with a2 := a', c2 := c' } { m with tab := (pairsM m.tab o).1 } (pairsM m.tab o).2) rfl
      refine RL.nil (RC.back ?_)
      refine RC.seq ?_
      refine RC.region rfl ?_
      refine RL.ev (.loadR (moT { p with a2 := a', c2 := c' } { m with tab := (pairsM m.tab o).1 } (pairsM m.tab o).2) sh45 rfl hb_5.row rfl) rfl rfl ?_
      refine RL.store sh45 rfl rfl rfl hb_4 (by exact Nat.le_of_ble_eq_true rfl) (by rfl) rfl (fun w15 z15 hb_4 a15 => ?_)
      have S := S.upd a15 ge_4
      have hF := hF.updD a15 d_hF_b_4
      have hb_2 := hb_2.upd a15 n_2__4
      have hb_3 := hb_3.upd a15 n_3__4
      have hb_5 := hb_5.upd a15 n_4__5.symm
      have hF' := hF'.updD a15 d_hF'_b_4
      have hb_7 := hb_7.upd a15 n_4__7.symm
      have hb_4 : Has w15 b_4 (moT { p with a2 := a', c2 := c' } { m with tab := (pairsM m.tab o).1 } (pairsM m.tab o).2) _ := hb_4.now (by kernel_rfl)
      refine RL.nil (RC.back ?_)
      refine RC.done (rs := [.cell 4 45]) (vs := [_]) rfl rfl ⟨⟨_, rfl, .inr ⟨moT { p with a2 := a', c2 := c' } { m with tab := (pairsM m.tab o).1 } (pairsM m.tab o).2, sh45, hb_4.row, rfl⟩⟩, trivial⟩ ?_
      -- end 2
      have hd : doM m o = ({ m with tab := (pairsM m.tab o).1 }, (pairsM m.tab o).2) := (by unfold doM; rw [if_neg (by omega), if_pos g27])
      rw [hd] at hRd ⊢
      have hl : ∀ k, (M k ∨ M' k) → k < w15.heap.size := (fun k hk => hk.elim (hF.lt k) (hF'.lt k))
      exact ⟨S, { p with a2 := a', c2 := c' }, fun k => M k ∨ M' k, rfl, MoS.of hs.k1 hc' hs.k3 hs.k4 hRd, Ft.all (p := { p with a2 := a', c2 := c' }) ((hF.imp fun u h => h.h1).wid hl fun _ h => .inl h) (hF'.wid hl fun _ h => .inr h) ((hF.imp fun u h => h.h3).wid hl fun _ h => .inl h) ((hF.imp fun u h => h.h4).wid hl fun _ h => .inl h), (Up.refl _ _).or hup⟩
    ·
      have g27 : ¬ o.box = 2 := h9
      refine RC.seq ?_
      refine RC.region rfl ?_
      refine RL.ev (.bin rfl rfl rfl) rfl rfl ?_
      refine RL.ev (.assign rfl) rfl rfl ?_
      refine RL.nil (RC.back ?_)
      refine RC.cond_dec rfl (fun h16 => ?_) (fun h16 => ?_)
      ·
        have g40 : o.box = 3 := h16
        refine RC.seq ?_
        refine RC.region rfl ?_
        refine RL.ev (.field0 fo38_2 rfl) rfl rfl ?_
        refine RL.ev (.load1 sh36 rfl (hb_2.cell rfl)) rfl rfl ?_
        refine RL.ev (.loadR ([.int .i64 o.box, .int .i64 o.kind, .int .i64 o.a, .int .i64 o.b]) sh40 rfl hb_3.row rfl) rfl rfl ?_
        refine RL.call rfl ok32 (c_refRowM m.row p.a3 p.c3 _ rfl h6 hs.k3 o hok w1 M (hF.imp fun u h => h.h3)) rfl rfl ?_
        rintro _ w17 ⟨s18, a', c', M', rfl, hc', hF', hup⟩
        have d_hF'_b_2 := upNe hup d_hF_b_2 hb_2.lt
        have d_hF'_b_3 := upNe hup d_hF_b_3 hb_3.lt
        have d_hF'_b_4 := upNe hup d_hF_b_4 hb_4.lt
        have d_hF'_b_5 := upNe hup d_hF_b_5 hb_5.lt
        have hup := hup.le S.size
        have S := S.trans s18
        have hF := hF.sub s18
        have hb_2 := hb_2.sub s18
        have hb_3 := hb_3.sub s18
        have hb_4 := hb_4.sub s18
        have hb_5 := hb_5.sub s18
        refine RL.alloc ze67 rfl rfl (fun b_8 w_8 e_8 z_8 hb_8 s_8 => ?_)
        have ge_8 := S.le e_8
        have n_2__8 := hb_2.ne e_8
        have n_3__8 := hb_3.ne e_8
        have n_4__8 := hb_4.ne e_8
        have n_5__8 := hb_5.ne e_8
        have d_hF_b_8 := hF.neNew e_8
        have d_hF'_b_8 := hF'.neNew e_8
        have S := S.trans s_8
        have hF := hF.sub s_8
        have hb_2 := hb_2.sub s_8
        have hb_3 := hb_3.sub s_8
        have hb_4 := hb_4.sub s_8
        have hb_5 := hb_5.sub s_8
        have hF' := hF'.sub s_8
        refine RL.store sh67 rfl rfl rfl hb_8 (by exact Nat.le_of_ble_eq_true rfl) (by rfl) rfl (fun w19 z19 hb_8 a19 => ?_)
        have S := S.upd a19 ge_8
        have hF := hF.updD a19 d_hF_b_8
        have hb_2 := hb_2.upd a19 n_2__8
        have hb_3 := hb_3.upd a19 n_3__8
        have hb_4 := hb_4.upd a19 n_4__8
        have hb_5 := hb_5.upd a19 n_5__8
        have hF' := hF'.updD a19 d_hF'_b_8
        have hb_8 : Has w19 b_8 ([.slice a' (rowM m.row o).1.length c', .int .i64 (rowM m.row o).2.e, .int .i64 (rowM m.row o).2.a, .int .i64 (rowM m.row o).2.b]) _ := hb_8.now (by kernel_rfl)
        refine RL.nil (RC.back ?_)
        refine RC.seq ?_
        refine RC.region rfl ?_
        refine RL.ev (.field0 fo67_0 rfl) rfl rfl ?_
        refine RL.ev (.load1 sh36 rfl (hb_8.cell rfl)) rfl rfl ?_
        refine RL.ev (.field0 fo45_0 rfl) rfl rfl ?_
        refine RL.ev (.field0 fo38_2 rfl) rfl rfl ?_
        refine RL.store sh36 rfl rfl rfl hb_5 (by exact Nat.le_of_ble_eq_true rfl) (by rfl) rfl (fun w20 z20 hb_5 a20 => ?_)
        have S := S.upd a20 ge_5
        have hF := hF.updD a20 d_hF_b_5
        have hb_2 := hb_2.upd a20 n_2__5
        have hb_3 := hb_3.upd a20 n_3__5
        have hb_4 := hb_4.upd a20 n_4__5
        have hF' := hF'.updD a20 d_hF'_b_5
        have hb_8 := hb_8.upd a20 n_5__8.symm
        have hb_5 : Has w20 b_5 ([.slice p.a1 m.map.length p.c1, .slice p.a2 m.tab.length p.c2, .slice a' (rowM m.row o).1.length c', .slice p.a4 m.heap.length p.c4, .int .i64 0, .int .i64 0, .int .i64 0]) _ := hb_5
        refine RL.nil (RC.back ?_)
        refine RC.region rfl ?_
        refine RL.ev (.field0 fo67_1 rfl) rfl rfl ?_
        refine RL.ev (.loadR ([.int .i64 (rowM m.row o).2.e, .int .i64 (rowM m.row o).2.a, .int .i64 (rowM m.row o).2.b]) sh43 rfl (Has.row_at (pre := [.slice a' (rowM m.row o).1.length c']) (post := []) hb_8 rfl) rfl) rfl rfl ?_
        refine RL.ev (.field0 fo45_1 rfl) rfl rfl ?_
        refine RL.store sh43 rfl rfl rfl hb_5 (by exact Nat.le_of_ble_eq_true rfl) (by rfl) rfl (fun w21 z21 hb_5 a21 => ?_)
        have S := S.upd a21 ge_5
        have hF := hF.updD a21 d_hF_b_5
        have hb_2 := hb_2.upd a21 n_2__5
        have hb_3 := hb_3.upd a21 n_3__5
        have hb_4 := hb_4.upd a21 n_4__5
        have hF' := hF'.updD a21 d_hF'_b_5
        have hb_8 := hb_8.upd a21 n_5__8.symm
        have hb_5 := Has.is hb_5 (moT { p with a3 := a', c3 := c' } { m with row := (rowM m.row o).1 } (rowM m.row o).2) rfl
        refine RL.nil (RC.back ?_)
        refine RC.seq ?_
        refine RC.region rfl ?_
        refine RL.ev (.loadR (moT { p with a3 := a', c3 := c' } { m with row := (rowM m.row o).1 } (rowM m.row o).2) sh45 rfl hb_5.row rfl) rfl rfl ?_
        refine RL.store sh45 rfl rfl rfl hb_4 (by exact Nat.le_of_ble_eq_true rfl) (by rfl) rfl (fun w22 z22 hb_4 a22 => ?_)
        have S := S.upd a22 ge_4
        have hF := hF.updD a22 d_hF_b_4
        have hb_2 := hb_2.upd a22 n_2__4
        have hb_3 := hb_3.upd a22 n_3__4
        have hb_5 := hb_5.upd a22 n_4__5.symm
        have hF' := hF'.updD a22 d_hF'_b_4
        have hb_8 := hb_8.upd a22 n_4__8.symm
        have hb_4 : Has w22 b_4 (moT { p with a3 := a', c3 := c' } { m with row := (rowM m.row o).1 } (rowM m.row o).2) _ := hb_4.now (by kernel_rfl)
        refine RL.nil (RC.back ?_)
        refine RC.done (rs := [.cell 4 45]) (vs := [_]) rfl rfl ⟨⟨_, rfl, .inr ⟨moT { p with a3 := a', c3 := c' } { m with row := (rowM m.row o).1 } (rowM m.row o).2, sh45, hb_4.row, rfl⟩⟩, trivial⟩ ?_
        -- end 3
        have hd : doM m o = ({ m with row := (rowM m.row o).1 }, (rowM m.row o).2) := (by unfold doM; rw [if_neg (by omega), if_neg (by omega), if_pos g40])
        rw [hd] at hRd ⊢
        have hl : ∀ k, (M k ∨ M' k) → k < w22.heap.size := (fun k hk => hk.elim (hF.lt k) (hF'.lt k))
        exact ⟨S, { p with a3 := a', c3 := c' }, fun k => M k ∨ M' k, rfl, MoS.of hs.k1 hs.k2 hc' hs.k4 hRd, Ft.all (p := { p with a3 := a', c3 := c' }) ((hF.imp fun u h => h.h1).wid hl fun _ h => .inl h) ((hF.imp fun u h => h.h2).wid hl fun _ h => .inl h) (hF'.wid hl fun _ h => .inr h) ((hF.imp fun u h => h.h4).wid hl fun _ h => .inl h), (Up.refl _ _).or hup⟩
      ·
        have g40 : ¬ o.box = 3 := h16
        refine RC.seq ?_
        refine RC.region rfl ?_
        refine RL.ev (.bin rfl rfl rfl) rfl rfl ?_
        refine RL.ev (.assign rfl) rfl rfl ?_
        refine RL.nil (RC.back ?_)
        refine RC.cond_dec rfl (fun h23 => ?_) (fun h23 => ?_)
        ·
          have g53 : o.box = 4 := h23
          refine RC.seq ?_
          refine RC.region rfl ?_
          refine RL.ev (.field0 fo38_3 rfl) rfl rfl ?_
          refine RL.ev (.load1 sh35 rfl (hb_2.cell rfl)) rfl rfl ?_
          refine RL.ev (.loadR ([.int .i64 o.box, .int .i64 o.kind, .int .i64 o.a, .int .i64 o.b]) sh40 rfl hb_3.row rfl) rfl rfl ?_
          refine RL.call rfl ok33 (c_refHeap m.heap p.a4 p.c4 _ rfl h5.2 hs.k4 o hok w1 M (hF.imp fun u h => h.h4)) rfl rfl ?_
          rintro _ w24 ⟨s25, a', c', M', rfl, hc', hF', hup⟩
          have d_hF'_b_2 := upNe hup d_hF_b_2 hb_2.lt
          have d_hF'_b_3 := upNe hup d_hF_b_3 hb_3.lt
          have d_hF'_b_4 := upNe hup d_hF_b_4 hb_4.lt
          have d_hF'_b_5 := upNe hup d_hF_b_5 hb_5.lt
          have hup := hup.le S.size
          have S := S.trans s25
          have hF := hF.sub s25
          have hb_2 := hb_2.sub s25
          have hb_3 := hb_3.sub s25
          have hb_4 := hb_4.sub s25
          have hb_5 := hb_5.sub s25
          refine RL.alloc ze64 rfl rfl (fun b_9 w_9 e_9 z_9 hb_9 s_9 => ?_)
          have ge_9 := S.le e_9
          have n_2__9 := hb_2.ne e_9
          have n_3__9 := hb_3.ne e_9
          have n_4__9 := hb_4.ne e_9
          have n_5__9 := hb_5.ne e_9
          have d_hF_b_9 := hF.neNew e_9
          have d_hF'_b_9 := hF'.neNew e_9
          have S := S.trans s_9
          have hF := hF.sub s_9
          have hb_2 := hb_2.sub s_9
          have hb_3 := hb_3.sub s_9
          have hb_4 := hb_4.sub s_9
          have hb_5 := hb_5.sub s_9
          have hF' := hF'.sub s_9
          refine RL.store sh64 rfl rfl rfl hb_9 (by exact Nat.le_of_ble_eq_true rfl) (by rfl) rfl (fun w26 z26 hb_9 a26 => ?_)
          have S := S.upd a26 ge_9
          have hF := hF.updD a26 d_hF_b_9
          have hb_2 := hb_2.upd a26 n_2__9
          have hb_3 := hb_3.upd a26 n_3__9
          have hb_4 := hb_4.upd a26 n_4__9
          have hb_5 := hb_5.upd a26 n_5__9
          have hF' := hF'.updD a26 d_hF'_b_9
          have hb_9 : Has w26 b_9 ([.slice a' (heapM m.heap o).1.length c', .int .i64 (heapM m.heap o).2.e, .int .i64 (heapM m.heap o).2.a, .int .i64 (heapM m.heap o).2.b]) _ := hb_9.now (by kernel_rfl)
          refine RL.nil (RC.back ?_)
          refine RC.seq ?_
          refine RC.region rfl ?_
          refine RL.ev (.field0 fo64_0 rfl) rfl rfl ?_
          refine RL.ev (.load1 sh35 rfl (hb_9.cell rfl)) rfl rfl ?_
          refine RL.ev (.field0 fo45_0 rfl) rfl rfl ?_
          refine RL.ev (.field0 fo38_3 rfl) rfl rfl ?_
          refine RL.store sh35 rfl rfl rfl hb_5 (by exact Nat.le_of_ble_eq_true rfl) (by rfl) rfl (fun w27 z27 hb_5 a27 => ?_)
          have S := S.upd a27 ge_5
          have hF := hF.updD a27 d_hF_b_5
          have hb_2 := hb_2.upd a27 n_2__5
          have hb_3 := hb_3.upd a27 n_3__5
          have hb_4 := hb_4.upd a27 n_4__5
          have hF' := hF'.updD a27 d_hF'_b_5
          have hb_9 := hb_9.upd a27 n_5__9.symm
          have hb_5 : Has w27 b_5 ([.slice p.a1 m.map.length p.c1, .slice p.a2 m.tab.length p.c2, .slice p.a3 m.row.length p.c3, .slice a' (heapM m.heap o).1.length c', .int .i64 0, .int .i64 0, .int .i64 0]) _ := hb_5
          refine RL.nil (RC.back ?_)
          refine RC.region rfl ?_
          refine RL.ev (.field0 fo64_1 rfl) rfl rfl ?_
          refine RL.ev (.loadR ([.int .i64 (heapM m.heap o).2.e, .int .i64 (heapM m.heap o).2.a, .int .i64 (heapM m.heap o).2.b]) sh43 rfl (Has.row_at (pre := [.slice a' (heapM m.heap o).1.length c']) (post := []) hb_9 rfl) rfl) rfl rfl ?_
          refine RL.ev (.field0 fo45_1 rfl) rfl rfl ?_
          refine RL.store sh43 rfl rfl rfl hb_5 (by exact Nat.le_of_ble_eq_true rfl) (by rfl) rfl (fun w28 z28 hb_5 a28 => ?_)
          have S := S.upd a28 ge_5
          have hF := hF.updD a28 d_hF_b_5
          have hb_2 := hb_2.upd a28 n_2__5
          have hb_3 := hb_3.upd a28 n_3__5
          have hb_4 := hb_4.upd a28 n_4__5
          have hF' := hF'.updD a28 d_hF'_b_5
          have hb_9 := hb_9.upd a28 n_5__9.symm
          have hb_5 := Has.is hb_5 (moT { p with a4 := a', c4 := c' } { m with heap := (heapM m.heap o).1 } (heapM m.heap o).2) rfl
          refine RL.nil (RC.back ?_)
          refine RC.seq ?_
          refine RC.region rfl ?_
          refine RL.ev (.loadR (moT { p with a4 := a', c4 := c' } { m with heap := (heapM m.heap o).1 } (heapM m.heap o).2) sh45 rfl hb_5.row rfl) rfl rfl ?_
          refine RL.store sh45 rfl rfl rfl hb_4 (by exact Nat.le_of_ble_eq_true rfl) (by rfl) rfl (fun w29 z29 hb_4 a29 => ?_)
          have S := S.upd a29 ge_4
          have hF := hF.updD a29 d_hF_b_4
          have hb_2 := hb_2.upd a29 n_2__4
          have hb_3 := hb_3.upd a29 n_3__4
          have hb_5 := hb_5.upd a29 n_4__5.symm
          have hF' := hF'.updD a29 d_hF'_b_4
          have hb_9 := hb_9.upd a29 n_4__9.symm
          have hb_4 : Has w29 b_4 (moT { p with a4 := a', c4 := c' } { m with heap := (heapM m.heap o).1 } (heapM m.heap o).2) _ := hb_4.now (by kernel_rfl)
          refine RL.nil (RC.back ?_)
          refine RC.done (rs := [.cell 4 45]) (vs := [_]) rfl rfl ⟨⟨_, rfl, .inr ⟨moT { p with a4 := a', c4 := c' } { m with heap := (heapM m.heap o).1 } (heapM m.heap o).2, sh45, hb_4.row, rfl⟩⟩, trivial⟩ ?_
          -- end 4
          have hd : doM m o = ({ m with heap := (heapM m.heap o).1 }, (heapM m.heap o).2) := (by unfold doM; rw [if_neg (by omega), if_neg (by omega), if_neg (by omega)])
          rw [hd] at hRd ⊢
          have hl : ∀ k, (M k ∨ M' k) → k < w29.heap.size := (fun k hk => hk.elim (hF.lt k) (hF'.lt k))
          exact ⟨S, { p with a4 := a', c4 := c' }, fun k => M k ∨ M' k, rfl, MoS.of hs.k1 hs.k2 hs.k3 hc' hRd, Ft.all (p := { p with a4 := a', c4 := c' }) ((hF.imp fun u h => h.h1).wid hl fun _ h => .inl h) ((hF.imp fun u h => h.h2).wid hl fun _ h => .inl h) ((hF.imp fun u h => h.h3).wid hl fun _ h => .inl h) (hF'.wid hl fun _ h => .inr h), (Up.refl _ _).or hup⟩
        ·
          exact absurd hbx (by omega)
end Go.Proofs.Ytlhnnleaiinjaaa
set_option linter.unusedVariables false
set_option linter.unusedSimpArgs false
namespace Go.Proofs.Ytlhnnleaiinjaaa
open Go Go.XL
def runM (m : Mo) : List OpT → Mo × List ResT
  | [] => (m, [])
  | o :: os => ((runM (doM m o).1 os).1, (doM m o).2 :: (runM (doM m o).1 os).2)
theorem runM_app (l r : List OpT) : ∀ m : Mo, runM m (l ++ r) = ((runM (runM m l).1 r).1, (runM m l).2 ++ (runM (runM m l).1 r).2) := by
  induction l with
  | nil => intro m; rfl
  | cons o l ih => intro m; simp only [List.cons_append, runM, ih]
def runOk (m : Mo) (ops : List OpT) : Prop := rightM m ∧ ∀ o ∈ ops, okP o
theorem runOk.take {m : Mo} {ops : List OpT} (h : runOk m ops) (i : Nat) : runOk m (ops.take i) := ⟨h.1, fun x hx => h.2 x (List.mem_of_mem_take hx)⟩
end Go.Proofs.Ytlhnnleaiinjaaa
set_option linter.unusedVariables false
set_option linter.unusedSimpArgs false
namespace Go.Proofs.Ytlhnnleaiinjaaa
open Go Go.XL
structure En where
  proc : Int
  op : OpT
  res : ResT
  fr : Int
  to : Int
  deriving DecidableEq
def En.cells (x : En) : List Value := [.int .i64 x.proc, .int .i64 x.op.box, .int .i64 x.op.kind, .int .i64 x.op.a, .int .i64 x.op.b, .int .i64 x.res.e, .int .i64 x.res.a, .int .i64 x.res.b, .int .i64 x.fr, .int .i64 x.to]
def En.val (x : En) : Value := .agg x.cells.toArray
def en0 : En := ⟨0, ⟨0, 0, 0, 0⟩, ⟨0, 0, 0⟩, 0, 0⟩
def enAt (l : List En) (i : Int) : En := l.getD i.toNat en0
theorem enAt_get {l : List En} {i : Nat} {x : En} (h : l[i]? = some x) : enAt l (i : Int) = x := by
  unfold enAt; rw [Int.toNat_natCast, List.getD_eq_getElem?_getD, h]; rfl
def rightE (x : En) : Prop := okP x.op ∧ 0 ≤ x.fr ∧ x.fr ≤ x.to ∧ x.to ≤ 1099511627776
def rightH (l : List En) : Prop := (∀ x ∈ l, rightE x) ∧ l.length ≤ 200
def fullR : ResT := ⟨2, 0, 0⟩
def ansM (m : Mo) (x : En) : Mo × Bool := if x.res = fullR then (m, true) else ((doM m x.op).1, decide ((doM m x.op).2 = x.res))
theorem ansM_right {m : Mo} {x : En} (h : rightM m) (hx : rightE x) : rightM (ansM m x).1 := by
  unfold ansM; split
  · exact h
  · exact rightM_do h hx.1
def playM : Mo → List En → Option Mo
  | m, [] => some m
  | m, x :: r => if (ansM m x).2 then playM (ansM m x).1 r else none
theorem playM_app (l r : List En) : ∀ m : Mo, playM m (l ++ r) = (playM m l).bind fun n => playM n r := by
  induction l with
  | nil => intro m; rfl
  | cons x l ih => intro m; simp only [List.cons_append, playM]; split; exact ih _; rfl
def permH (l : List En) (o : List Int) : Prop := o.length = l.length ∧ ∀ i : Nat, i < l.length → (i : Int) ∈ o
def laterP (l : List En) (i j : Int) : Prop := (enAt l j).to < (enAt l i).fr
def fitsT (l : List En) (o : List Int) : Prop := o.Pairwise fun i j => ¬ laterP l i j
noncomputable def fitsM (l : List En) (o : List Int) : Int := cond (pB (rightH l ∧ permH l o)) (cond (pB (fitsT l o)) (match playM m0 (o.map (enAt l)) with | none => 3 | some _ => 0) 5) 1
theorem fitsM_zero {l : List En} {o : List Int} : fitsM l o = 0 ↔ rightH l ∧ permH l o ∧ fitsT l o ∧ ∃ m, playM m0 (o.map (enAt l)) = some m := by
  unfold fitsM
  constructor
  · intro h
    cases h1 : pB (rightH l ∧ permH l o) with
    | false => rw [h1] at h; cases h
    | true =>
      rw [h1] at h
      cases h2 : pB (fitsT l o) with
      | false => rw [h2] at h; cases h
      | true =>
        rw [h2] at h
        cases h3 : playM m0 (o.map (enAt l)) with
        | none => rw [h3] at h; cases h
        | some m => exact ⟨(pB_iff.1 h1).1, (pB_iff.1 h1).2, pB_iff.1 h2, m, rfl⟩
  · rintro ⟨h1, h2, h3, m, h4⟩
    rw [pB_yes ⟨h1, h2⟩, pB_yes h3, h4]; rfl
theorem fitsM_no {l : List En} {o : List Int} (h : ¬ (rightH l ∧ permH l o)) : fitsM l o = 1 := by unfold fitsM; rw [pB_no h]; rfl
theorem fitsM_time {l : List En} {o : List Int} (h : rightH l ∧ permH l o) (h2 : ¬ fitsT l o) : fitsM l o = 5 := by unfold fitsM; rw [pB_yes h, pB_no h2]; rfl
theorem fitsM_play {l : List En} {o : List Int} (h : rightH l ∧ permH l o) (h2 : fitsT l o) (h3 : playM m0 (o.map (enAt l)) = none) : fitsM l o = 3 := by unfold fitsM; rw [pB_yes h, pB_yes h2, h3]; rfl
theorem nd_le {α : Type} [DecidableEq α] : ∀ (l m : List α), l.Nodup → (∀ x ∈ l, x ∈ m) → l.length ≤ m.length
  | [], _, _, _ => Nat.zero_le _
  | x :: l, m, h, hm => by
    rw [List.nodup_cons] at h
    have h1 := nd_le l (m.erase x) h.2 (fun y hy => (List.mem_erase_of_ne (fun e : y = x => h.1 (by rw [← e]; exact hy))).2 (hm y (by simp [hy])))
    have h2 := List.length_erase_of_mem (hm x (by simp))
    have h3 := List.length_pos_of_mem (hm x (by simp))
    rw [List.length_cons]; omega
def natsI (n : Nat) : List Int := (List.range n).map fun i => Int.ofNat i
theorem natsI_len (n : Nat) : (natsI n).length = n := by simp [natsI]
theorem mem_natsI {n : Nat} {x : Int} : x ∈ natsI n ↔ 0 ≤ x ∧ x < n := by
  unfold natsI
  rw [List.mem_map]
  constructor
  · rintro ⟨i, hi, rfl⟩; rw [List.mem_range] at hi; exact ⟨Int.natCast_nonneg i, by show (i : Int) < n; omega⟩
  · rintro ⟨h1, h2⟩; exact ⟨x.toNat, List.mem_range.2 (by omega), Int.toNat_of_nonneg h1⟩
theorem natsI_nd (n : Nat) : (natsI n).Nodup := by
  unfold natsI List.Nodup
  rw [List.pairwise_map]
  exact List.nodup_range.imp fun h e => h (Int.ofNat.inj e)
theorem natsI_get {n i : Nat} (h : i < n) : (natsI n)[i]? = some (i : Int) := by
  unfold natsI; rw [List.getElem?_map, List.getElem?_range h]; rfl
theorem natsI_succ (n : Nat) : natsI (n + 1) = natsI n ++ [(n : Int)] := by unfold natsI; rw [List.range_succ, List.map_append]; rfl
/-- a row of so many that has all has each once -/
theorem perm_once {n : Nat} {o : List Int} (hl : o.length = n) (h : ∀ i : Nat, i < n → (i : Int) ∈ o) : (∀ x ∈ o, 0 ≤ x ∧ x < n) ∧ o.Nodup := by
  have key : ∀ x ∈ o, (∀ i : Nat, i < n → (i : Int) ∈ o.erase x) → False := fun x hx hh => by
    have h1 := nd_le (natsI n) (o.erase x) (natsI_nd n) (fun y hy => by
      have := mem_natsI.1 hy
      have := hh y.toNat (by omega)
      rwa [Int.toNat_of_nonneg (by omega)] at this)
    rw [natsI_len, List.length_erase_of_mem hx] at h1
    have := List.length_pos_of_mem hx
    omega
  refine ⟨fun x hx => Classical.byContradiction fun hn => key x hx fun i hi => ?_, ?_⟩
  · exact (List.mem_erase_of_ne (fun e => hn (by omega))).2 (h i hi)
  · refine Classical.byContradiction fun hn => ?_
    have aux : ∀ p : List Int, ¬ p.Nodup → ∃ x ∈ p, x ∈ p.erase x := by
      intro p
      induction p with
      | nil => intro h; exact absurd List.Pairwise.nil h
      | cons a p ih =>
        intro h
        rw [List.nodup_cons] at h
        by_cases ha : a ∈ p
        · exact ⟨a, by simp, by rw [List.erase_cons_head]; exact ha⟩
        · obtain ⟨x, hx, hx2⟩ := ih (fun q => h ⟨ha, q⟩)
          refine ⟨x, by simp [hx], ?_⟩
          have hne : a ≠ x := fun e => ha (e ▸ hx)
          rw [List.erase_cons_tail (by simpa using hne)]
          simp [hx2]
    obtain ⟨x, hx, hx2⟩ := aux o hn
    refine key x hx fun i hi => ?_
    by_cases e : (i : Int) = x
    · rw [e]; exact hx2
    · exact (List.mem_erase_of_ne e).2 (h i hi)
theorem perm_of {n : Nat} {o : List Int} (hl : o.length = n) (hr : ∀ x ∈ o, 0 ≤ x ∧ x < n) (hn : o.Nodup) : ∀ i : Nat, i < n → (i : Int) ∈ o := by
  intro i hi
  refine Classical.byContradiction fun h => ?_
  have := nd_le o ((natsI n).erase (i : Int)) hn (fun x hx => (List.mem_erase_of_ne (fun e : x = (i : Int) => h (by rw [← e]; exact hx))).2 (mem_natsI.2 (hr x hx)))
  rw [List.length_erase_of_mem (mem_natsI.2 (by omega)), natsI_len] at this
  omega
def lateM (l : List En) (o : List Int) (i : Nat) : Prop := ∃ j : Nat, j < l.length ∧ ¬ j = i ∧ ¬ (j : Int) ∈ o ∧ laterP l (i : Int) (j : Int)
noncomputable def tryS (l : List En) (k : List Int → Mo → Option (List Int)) (o : List Int) (m : Mo) (i : Nat) : Option (List Int) :=
  if pB ((i : Int) ∈ o ∨ lateM l o i) = true then none else if (ansM m (enAt l i)).2 = true then k (o ++ [(i : Int)]) (ansM m (enAt l i)).1 else none
noncomputable def tryM (l : List En) : Nat → List Int → Mo → Option (List Int)
  | 0, o, _ => some o
  | k + 1, o, m => (List.range l.length).findSome? (tryS l (tryM l k) o m)
noncomputable def firstS (k : List Int → List Int) (b : List Int) (i : Nat) : Option (List Int) :=
  if (i : Int) ∈ b then none else if k (b ++ [(i : Int)]) = [] then none else some (k (b ++ [(i : Int)]))
noncomputable def firstM (l : List En) : Nat → List Int → List Int
  | 0, b => if fitsM l b = 0 then b else []
  | k + 1, b => ((List.range l.length).findSome? (firstS (firstM l k) b)).getD []
theorem find_range {α : Type} {f : Nat → Option α} {n i : Nat} {r : α} (hi : i < n) (h : ∀ j, j < i → f j = none) (hr : f i = some r) : (List.range n).findSome? f = some r := by
  have e : List.range n = List.range i ++ (List.range (n - i)).map (i + ·) := by rw [← List.range_add]; congr 1; omega
  rw [e, List.findSome?_append, List.findSome?_eq_none_iff.2 (fun j hj => h j (List.mem_range.1 hj)), show n - i = (n - i - 1) + 1 by omega, List.range_succ_eq_map]
  simp [hr]
theorem find_none {α : Type} {f : Nat → Option α} {n : Nat} (h : ∀ j, j < n → f j = none) : (List.range n).findSome? f = none :=
  List.findSome?_eq_none_iff.2 fun j hj => h j (List.mem_range.1 hj)
theorem find_some {α : Type} {f : Nat → Option α} {n : Nat} {r : α} (h : (List.range n).findSome? f = some r) : ∃ i, i < n ∧ f i = some r := by
  obtain ⟨i, hi, e⟩ := List.exists_of_findSome?_eq_some h
  exact ⟨i, List.mem_range.1 hi, e⟩
/-- an order that is begun, and may be gone on with -/
structure Beg (l : List En) (k : Nat) (o : List Int) (m : Mo) : Prop where
  len : o.length + k = l.length
  rng : ∀ x ∈ o, 0 ≤ x ∧ x < l.length
  nd : o.Nodup
  fit : fitsT l o
  now : ∀ i ∈ o, ∀ j : Nat, j < l.length → ¬ (j : Int) ∈ o → ¬ laterP l i (j : Int)
  play : playM m0 (o.map (enAt l)) = some m
theorem Beg.nil (l : List En) : Beg l l.length [] m0 := ⟨by simp, by simp, List.Pairwise.nil, List.Pairwise.nil, by simp, rfl⟩
theorem Beg.step {l : List En} {k : Nat} {o : List Int} {m : Mo} {i : Nat} (h : Beg l (k + 1) o m) (hi : i < l.length) (hn : ¬ (i : Int) ∈ o) (hl : ¬ lateM l o i) (ha : (ansM m (enAt l i)).2 = true) : Beg l k (o ++ [(i : Int)]) (ansM m (enAt l i)).1 := by
  refine ⟨by have := h.len; rw [List.length_append, List.length_singleton]; omega, fun x hx => ?_, ?_, ?_, fun x hx j hj hjo hla => ?_, ?_⟩
  · rcases List.mem_append.1 hx with hx | hx
    · exact h.rng x hx
    · rw [List.mem_singleton] at hx; omega
  · refine List.pairwise_append.2 ⟨h.nd, List.pairwise_singleton _ _, fun x hx y hy e => ?_⟩
    rw [List.mem_singleton] at hy; subst hy; subst e; exact hn hx
  · refine List.pairwise_append.2 ⟨h.fit, List.pairwise_singleton _ _, fun x hx y hy => ?_⟩
    rw [List.mem_singleton] at hy; subst hy; exact h.now x hx i hi hn
  · have hj1 : ¬ (j : Int) ∈ o := fun e => hjo (List.mem_append.2 (.inl e))
    rcases List.mem_append.1 hx with hx | hx
    · exact h.now x hx j hj hj1 hla
    · rw [List.mem_singleton] at hx; subst hx
      exact hl ⟨j, hj, fun e => hjo (by rw [e]; simp), hj1, hla⟩
  · rw [List.map_append, playM_app, h.play]
    simp [playM, ha]
theorem Beg.fits {l : List En} {o : List Int} {m : Mo} (hr : rightH l) (h : Beg l 0 o m) : fitsM l o = 0 :=
  fitsM_zero.2 ⟨hr, ⟨h.len, perm_of h.len h.rng h.nd⟩, h.fit, m, h.play⟩
theorem tryM_fits {l : List En} (hr : rightH l) : ∀ {k : Nat} {o : List Int} {m : Mo} {r : List Int}, Beg l k o m → tryM l k o m = some r → fitsM l r = 0 ∧ r.length = l.length
  | 0, o, m, r, h, e => by
    simp only [tryM, Option.some.injEq] at e
    subst e
    exact ⟨h.fits hr, h.len⟩
  | k + 1, o, m, r, h, e => by
    obtain ⟨i, hi, e⟩ := find_some e
    unfold tryS at e
    split at e
    · cases e
    · rename_i hq
      rw [pB_iff] at hq
      split at e
      · rename_i ha; exact tryM_fits hr (h.step hi (fun q => hq (.inl q)) (fun q => hq (.inr q)) ha) e
      · cases e
theorem firstM_fits {l : List En} : ∀ {k : Nat} {b : List Int}, ¬ firstM l k b = [] → fitsM l (firstM l k b) = 0 ∧ ∃ s, firstM l k b = b ++ s
  | 0, b, h => by
    simp only [firstM] at h ⊢
    split at h
    · rename_i hf; rw [if_pos hf]; exact ⟨hf, [], by simp⟩
    · exact absurd rfl h
  | k + 1, b, h => by
    rw [firstM] at h ⊢
    cases hq : (List.range l.length).findSome? (firstS (firstM l k) b) with
    | none => rw [hq] at h; exact absurd rfl h
    | some r =>
      obtain ⟨i, hi, e⟩ := find_some hq
      unfold firstS at e
      split at e
      · cases e
      · split at e
        · cases e
        · rename_i hne
          cases e
          obtain ⟨h1, s, h2⟩ := firstM_fits hne
          exact ⟨h1, (i : Int) :: s, by simp only [Option.getD_some]; rw [h2, List.append_assoc]; rfl⟩
theorem first_try {l : List En} (hr : rightH l) : ∀ {k : Nat} {o : List Int} {m : Mo}, Beg l k o m → firstM l k o = (tryM l k o m).getD []
  | 0, o, m, h => by simp only [firstM, tryM, Option.getD_some, h.fits hr, if_true]
  | k + 1, o, m, h => by
    rw [firstM, tryM]
    congr 1
    have key : ∀ i, i < l.length → firstS (firstM l k) o i = tryS l (tryM l k) o m i := fun i hi => by
      unfold firstS tryS
      by_cases hio : (i : Int) ∈ o
      · rw [if_pos hio, pB_yes (.inl hio), if_pos rfl]
      · rw [if_neg hio]
        by_cases hla : lateM l o i
        · rw [pB_yes (.inr hla), if_pos rfl]
          by_cases he : firstM l k (o ++ [(i : Int)]) = []
          · rw [if_pos he]
          · obtain ⟨h1, s, h2⟩ := firstM_fits he
            obtain ⟨_, hp, hf, _⟩ := fitsM_zero.1 h1
            rw [h2] at hp hf
            obtain ⟨j, hj, hji, hjo, hlt⟩ := hla
            have hm := hp.2 j hj
            rcases List.mem_append.1 hm with hm | hm
            · rcases List.mem_append.1 hm with hm | hm
              · exact absurd hm hjo
              · rw [List.mem_singleton] at hm; omega
            · exact absurd hlt ((List.pairwise_append.1 hf).2.2 _ (by simp) _ hm)
        · rw [pB_no (fun e => e.elim hio hla), if_neg (show ¬ (false = true) by simp)]
          by_cases ha : (ansM m (enAt l i)).2 = true
          · rw [if_pos ha]
            have hb := h.step hi hio hla ha
            have ih := first_try hr hb
            rw [ih]
            cases ht : tryM l k (o ++ [(i : Int)]) (ansM m (enAt l i)).1 with
            | none => rfl
            | some r =>
              have := (tryM_fits hr hb ht).2
              have hne : ¬ r = [] := fun e => by rw [e] at this; simp at this; omega
              simp [hne]
          · rw [if_neg ha]
            by_cases he : firstM l k (o ++ [(i : Int)]) = []
            · rw [if_pos he]
            · obtain ⟨h1, s, h2⟩ := firstM_fits he
              obtain ⟨_, _, _, m2, hm2⟩ := fitsM_zero.1 h1
              rw [h2, List.map_append, List.map_append, playM_app, playM_app, h.play] at hm2
              simp [playM, ha] at hm2
    have aux : ∀ L : List Nat, (∀ i ∈ L, i < l.length) → L.findSome? (firstS (firstM l k) o) = L.findSome? (tryS l (tryM l k) o m) := by
      intro L
      induction L with
      | nil => intro _; rfl
      | cons i L ih => intro hL; simp only [List.findSome?_cons, key i (hL i (by simp)), ih (fun j hj => hL j (by simp [hj]))]
    exact aux _ fun i hi => List.mem_range.1 hi
/-- if there is one, one is found -/
theorem firstM_all {l : List En} {r : List Int} (hf : fitsM l r = 0) (hne : ¬ r = []) : ∀ {k : Nat} {b s : List Int}, r = b ++ s → s.length = k → ¬ firstM l k b = []
  | 0, b, s, h, hs => by
    have : s = [] := List.eq_nil_of_length_eq_zero hs
    subst this
    rw [List.append_nil] at h
    subst h
    simp only [firstM, hf, if_true]
    exact hne
  | k + 1, b, s, h, hs => by
    cases s with
    | nil => simp at hs
    | cons x s =>
      obtain ⟨hr, hp, hT, _⟩ := fitsM_zero.1 hf
      obtain ⟨hrng, hnd⟩ := perm_once hp.1 hp.2
      have hx := hrng x (by rw [h]; simp)
      obtain ⟨i, rfl⟩ := Int.eq_ofNat_of_zero_le hx.1
      have hnb : ¬ (i : Int) ∈ b := fun e => by
        rw [h] at hnd
        exact (List.pairwise_append.1 hnd).2.2 _ e _ (by simp) rfl
      have ih := firstM_all hf hne (k := k) (b := b ++ [(i : Int)]) (s := s) (by rw [h]; simp) (by simpa using hs)
      rw [firstM]
      intro e
      cases hq : (List.range l.length).findSome? (firstS (firstM l k) b) with
      | none =>
        have := List.findSome?_eq_none_iff.1 hq i (List.mem_range.2 (by omega))
        unfold firstS at this
        rw [if_neg hnb, if_neg ih] at this
        cases this
      | some q =>
        rw [hq] at e
        simp only [Option.getD_some] at e
        obtain ⟨j, _, ej⟩ := find_some hq
        unfold firstS at ej
        split at ej
        · cases ej
        · split at ej
          · cases ej
          · rename_i h2; cases ej; exact h2 e
end Go.Proofs.Ytlhnnleaiinjaaa
set_option linter.unusedVariables false
set_option linter.unusedSimpArgs false
namespace Go.Proofs.Ytlhnnleaiinjaaa
open Go Go.XL
theorem _root_.Go.XL.RC.scope {P : Program} {n : Cx} {c : Code} {F : List (Nat × Value)} {w : World} {p : Post} (h : RC P n c F w p) (hR : n.round = none := by rfl) : RC P n (.scope c) F w p := fun a k => by
  rw [cwp_none hR]
  refine wp_scope_straight ?_
  have := h a k
  rw [cwp_none hR] at this
  refine wp_mono this fun e a w q => ?_
  cases e <;> exact q
theorem _root_.Go.XL.FC.asV {P : Program} {f : FuncId} {args : List Value} {w : World} {v v' : Value} (h : FC P f args w (Val v w)) (hq : v = v') : FC P f args w (Val v' w) := by rwa [hq] at h
theorem _root_.Go.XL.FC.yes {P : Program} {f : FuncId} {args : List Value} {w : World} {q : Prop} [Decidable q] (h : FC P f args w (Val (.bool (decide q)) w)) (hq : q) : FC P f args w (Val (.bool true) w) := by rwa [decide_eq_true hq] at h
theorem eqL_res (r s : ResT) : eqL r.cells s.cells = decide (r = s) := by
  obtain ⟨a, b, c⟩ := r
  obtain ⟨d, e, f⟩ := s
  simp [eqL, eq1, ResT.cells]
  rfl
theorem notE_yes {x : En} [Decidable (rightE x)] (h : ¬ rightE x) : true = !decide (rightE x) := by rw [decide_eq_false h]; rfl
theorem notE_iff {x : En} [Decidable (rightE x)] {q : Prop} [Decidable q] (h : q ↔ ¬ rightE x) : decide q = !decide (rightE x) := by
  by_cases g : rightE x
  · rw [decide_eq_true g, decide_eq_false (fun e => h.1 e g)]; rfl
  · rw [decide_eq_false g, decide_eq_true (h.2 g)]; rfl
instance (x : En) : Decidable (rightE x) := by unfold rightE; infer_instance
theorem c_hRight1 (x : En) (w : World) : FC Try.prog 26 [x.val] w (Val (.bool (!decide (rightE x))) w) := by
  refine FC.intro Try.func26 rfl Try.ntmps26 rfl ?_
  have S := Sub.refl w
  refine RC.seq ?_
  refine RC.region rfl ?_
  refine RL.box rfl rfl rfl (fun b_1 w_1 e_1 z_1 hb_1 s_1 => ?_)
  have ge_1 := S.le e_1
  have S := S.trans s_1
  have hb_1 : Has w_1 b_1 (x.cells) _ := hb_1
  refine RL.ev (.assign rfl) rfl rfl ?_
  refine RL.nil (RC.back ?_)
  refine RC.seq ?_
  refine RC.region rfl ?_
  refine RL.ev (.field0 fo48_1 rfl) rfl rfl ?_
  refine RL.ev (.loadR (x.op.cells) sh40 rfl (Has.row_at (pre := [.int .i64 x.proc]) (mid := x.op.cells) (post := [.int .i64 x.res.e, .int .i64 x.res.a, .int .i64 x.res.b, .int .i64 x.fr, .int .i64 x.to]) hb_1 rfl) rfl) rfl rfl ?_
  refine RL.call rfl ok27 (c_opRight x.op w_1) rfl rfl ?_
  rintro _ w1 ⟨rfl, s2⟩
  have S := S.trans s2
  have hb_1 := hb_1.sub s2
  refine RL.ev (.not_dec rfl) rfl rfl ?_
  refine RL.ev (.move rfl) rfl rfl ?_
  refine RL.split 7 rfl (fun h3 => ?_) (fun h3 => ?_)
  ·
    have g7 : ¬ okP x.op := h3
    refine RL.off rfl rfl ?_
    refine RL.off rfl rfl ?_
    refine RL.off rfl rfl ?_
    refine RL.ev (.pick_t rfl rfl) rfl rfl ?_
    refine RL.ev (.move rfl) rfl rfl ?_
    refine RL.off rfl rfl ?_
    refine RL.off rfl rfl ?_
    refine RL.off rfl rfl ?_
    refine RL.off rfl rfl ?_
    refine RL.off rfl rfl ?_
    refine RL.ev (.pick_t rfl rfl) rfl rfl ?_
    refine RL.ev (.move rfl) rfl rfl ?_
    refine RL.off rfl rfl ?_
    refine RL.off rfl rfl ?_
    refine RL.off rfl rfl ?_
    refine RL.ev (.pick_t rfl rfl) rfl rfl ?_
    refine RL.ev (.assign rfl) rfl rfl ?_
    refine RL.nil (RC.back ?_)
    refine RC.done (rs := [.tmp 2]) (vs := [_]) rfl rfl ⟨rfl, trivial⟩ ?_
    -- end 1
    refine ⟨congrArg Value.bool ?_, S⟩
    first | exact notE_yes (fun e => g7 e.1) | exact notE_yes (fun e => by have := e.2.1; omega) | exact notE_yes (fun e => by have := e.2.2.1; omega) | exact notE_iff ⟨fun h e => by have := e.2.2.2; omega, fun h => Classical.byContradiction fun q => h ⟨g7, by omega, by omega, by omega⟩⟩
  ·
    have g7 : okP x.op := Classical.not_not.1 h3
    refine RL.ev (.field0 fo48_3 rfl) rfl rfl ?_
    refine RL.ev (.load1 sh3 rfl (hb_1.cell rfl)) rfl rfl ?_
    refine RL.ev (.bin rfl rfl rfl) rfl rfl ?_
    refine RL.ev (.pick_f rfl rfl) rfl rfl ?_
    refine RL.ev (.move rfl) rfl rfl ?_
    refine RL.split 12 rfl (fun h4 => ?_) (fun h4 => ?_)
    ·
      have g12 : x.fr < 0 := h4
      refine RL.off rfl rfl ?_
      refine RL.off rfl rfl ?_
      refine RL.off rfl rfl ?_
      refine RL.off rfl rfl ?_
      refine RL.off rfl rfl ?_
      refine RL.ev (.pick_t rfl rfl) rfl rfl ?_
      refine RL.ev (.move rfl) rfl rfl ?_
      refine RL.off rfl rfl ?_
      refine RL.off rfl rfl ?_
      refine RL.off rfl rfl ?_
      refine RL.ev (.pick_t rfl rfl) rfl rfl ?_
      refine RL.ev (.assign rfl) rfl rfl ?_
      refine RL.nil (RC.back ?_)
      refine RC.done (rs := [.tmp 2]) (vs := [_]) rfl rfl ⟨rfl, trivial⟩ ?_
      -- end 2
      refine ⟨congrArg Value.bool ?_, S⟩
      first | exact notE_yes (fun e => g7 e.1) | exact notE_yes (fun e => by have := e.2.1; omega) | exact notE_yes (fun e => by have := e.2.2.1; omega) | exact notE_iff ⟨fun h e => by have := e.2.2.2; omega, fun h => Classical.byContradiction fun q => h ⟨g7, by omega, by omega, by omega⟩⟩
    ·
      have g12 : ¬ x.fr < 0 := h4
      refine RL.ev (.field0 fo48_3 rfl) rfl rfl ?_
      refine RL.ev (.load1 sh3 rfl (hb_1.cell rfl)) rfl rfl ?_
      refine RL.ev (.field0 fo48_4 rfl) rfl rfl ?_
      refine RL.ev (.load1 sh3 rfl (hb_1.cell rfl)) rfl rfl ?_
      refine RL.ev (.bin rfl rfl rfl) rfl rfl ?_
      refine RL.ev (.pick_f rfl rfl) rfl rfl ?_
      refine RL.ev (.move rfl) rfl rfl ?_
      refine RL.split 19 rfl (fun h5 => ?_) (fun h5 => ?_)
      ·
        have g19 : x.to < x.fr := h5
        refine RL.off rfl rfl ?_
        refine RL.off rfl rfl ?_
        refine RL.off rfl rfl ?_
        refine RL.ev (.pick_t rfl rfl) rfl rfl ?_
        refine RL.ev (.assign rfl) rfl rfl ?_
        refine RL.nil (RC.back ?_)
        refine RC.done (rs := [.tmp 2]) (vs := [_]) rfl rfl ⟨rfl, trivial⟩ ?_
        -- end 3
        refine ⟨congrArg Value.bool ?_, S⟩
        first | exact notE_yes (fun e => g7 e.1) | exact notE_yes (fun e => by have := e.2.1; omega) | exact notE_yes (fun e => by have := e.2.2.1; omega) | exact notE_iff ⟨fun h e => by have := e.2.2.2; omega, fun h => Classical.byContradiction fun q => h ⟨g7, by omega, by omega, by omega⟩⟩
      ·
        have g19 : ¬ x.to < x.fr := h5
        refine RL.ev (.field0 fo48_4 rfl) rfl rfl ?_
        refine RL.ev (.load1 sh3 rfl (hb_1.cell rfl)) rfl rfl ?_
        refine RL.ev (.bin rfl rfl rfl) rfl rfl ?_
        refine RL.ev (.pick_f rfl rfl) rfl rfl ?_
        refine RL.ev (.assign rfl) rfl rfl ?_
        refine RL.nil (RC.back ?_)
        refine RC.done (rs := [.tmp 2]) (vs := [_]) rfl rfl ⟨rfl, trivial⟩ ?_
        -- end 4
        refine ⟨congrArg Value.bool ?_, S⟩
        first | exact notE_yes (fun e => g7 e.1) | exact notE_yes (fun e => by have := e.2.1; omega) | exact notE_yes (fun e => by have := e.2.2.1; omega) | exact notE_iff ⟨fun h e => by have := e.2.2.2; omega, fun h => Classical.byContradiction fun q => h ⟨g7, by omega, by omega, by omega⟩⟩
theorem c_indexEn (g : FuncId) (hg : calleeOK Try.prog g = true) (cs : List Value) (q : En → Bool) (l : List En) (a : Option Addr) (c m : Nat) (hm : m = l.length) (w : World) (hn : ∀ x ∈ l, ∀ w', Sub w w' → FC Try.prog g ([x.val] ++ cs) w' (Val (.bool (q x)) w')) (hl : Sl w a 10 (l.map En.cells)) (hb : l.length ≤ 1000000) :
    FC Try.prog 37 [.slice a m c, .func (.func g) #[] cs.toArray] w (fun u w' => Sub w w' ∧ ∃ n, u = .int .i64 n ∧ (n < 0 ∧ l.any q = false ∨ 0 ≤ n ∧ l.any q = true)) := by
  subst hm
  refine FC.intro Try.func37 rfl Try.ntmps37 rfl ?_
  have S := Sub.refl w
  refine RC.seq ?_
  refine RC.region rfl ?_
  refine RL.ev (.assign rfl) rfl rfl ?_
  refine RL.nil (RC.back ?_)
  refine RC.seq ?_
  refine RC.seq ?_
  refine RC.region rfl ?_
  refine RL.ev (.move rfl) rfl rfl ?_
  refine RL.ev (.len sl22 rfl) rfl rfl ?_
  refine RL.ev (.move rfl) rfl rfl ?_
  refine RL.nil (RC.back ?_)
  refine RC.block ?_
  refine RC.loop (α := Nat) (fun i => [(0, .slice a l.length c), (1, .func (.func g) #[] cs.toArray), (7, .int .i64 (l.length : Int)), (8, .int .i64 (i : Int))]) (fun i w1 => (i ≤ l.length ∧ ∀ x ∈ l.take i, q x = false) ∧ Sub w w1) (fun i => l.length - i) 0 (keep_of (by repeat (first | exact trivial | refine And.intro rfl ?_))) (⟨⟨Nat.zero_le _, by simp⟩, S⟩) (fun i w1 hJ => ?_)
  obtain ⟨⟨hi, hp⟩, S⟩ := hJ
  refine RC.seq ?_
  refine RC.region rfl ?_
  refine RL.ev (.bin rfl rfl rfl) rfl rfl ?_
  refine RL.nil (RC.back ?_)
  refine RC.seq ?_
  refine RC.cond_dec rfl (fun h2 => ?_) (fun h2 => ?_)
  ·
    obtain ⟨x, hx⟩ := getSome (l := l) (i := i) (by omega)
    have hxm := List.mem_of_getElem? hx
    refine RC.skip (RC.back ?_)
    refine RC.seq ?_
    refine RC.block ?_
    refine RC.seq ?_
    refine RC.region rfl ?_
    refine RL.ev (.move rfl) rfl rfl ?_
    refine RL.ev (.assign rfl) rfl rfl ?_
    refine RL.nil (RC.back ?_)
    refine RC.seq ?_
    refine RC.region rfl ?_
    refine RL.ev (.move rfl) rfl rfl ?_
    refine RL.ev (.move rfl) rfl rfl ?_
    refine RL.ev (.move rfl) rfl rfl ?_
    refine RL.ev (.indexS sl22 rfl rfl (by omega) (hl.is (i := 0) (by simp only [List.length_map, List.length_cons, List.length_nil]; omega))) rfl rfl ?_
    refine RL.ev (.loadR (x.cells) sh48 rfl ((hl.sub S).rowAt (enc := En.cells) (i := i) hx) rfl) rfl rfl ?_
    refine RL.callv rfl rfl (us := []) (cs := cs) hg (hn x hxm w1 S) rfl rfl ?_
    rintro _ w3 ⟨rfl, s4⟩
    have S := S.trans s4
    refine RL.nil (RC.back ?_)
    refine RC.cond rfl (fun h5 => ?_) (fun h5 => ?_)
    ·
      have h16 : q x = true := h5
      refine RC.seq ?_
      refine RC.region rfl ?_
      refine RL.ev (.move rfl) rfl rfl ?_
      refine RL.ev (.assign rfl) rfl rfl ?_
      refine RL.nil (RC.back ?_)
      refine RC.done (rs := [.tmp 4]) (vs := [_]) rfl rfl ⟨rfl, trivial⟩ ?_
      -- end 1
      exact ⟨S, _, rfl, .inr ⟨by omega, List.any_eq_true.2 ⟨x, hxm, h16⟩⟩⟩
    ·
      have h16 : q x = false := h5
      refine RC.skip (RC.back ?_)
      refine RC.region rfl ?_
      refine RL.ev (.as (.bin rfl rfl rfl) (wi64 (y := ((i + 1 : Nat) : Int)) (by omega) (by omega))) rfl rfl ?_
      refine RL.ev (.move rfl) rfl rfl ?_
      exact RL.nil (fun a ka => ⟨i + 1, ⟨⟨by omega, fun z hz => by rw [List.take_add_one, hx] at hz; rcases List.mem_append.1 hz with hz | hz; exact hp z hz; have e : z = x := (by simpa using hz); rw [e]; exact h16⟩, S⟩, by omega, ka.keep (keep_of (by repeat (first | exact trivial | refine And.intro rfl ?_)))⟩)
  ·
    obtain rfl : i = l.length := (by omega)
    rw [List.take_length] at hp
    refine RC.exit rfl (RC.back ?_)
    refine RC.seq ?_
    refine RC.region rfl ?_
    refine RL.ev (.assign rfl) rfl rfl ?_
    refine RL.nil (RC.back ?_)
    refine RC.done (rs := [.tmp 4]) (vs := [_]) rfl rfl ⟨rfl, trivial⟩ ?_
    -- end 2
    exact ⟨S, _, rfl, .inl ⟨by decide, List.any_eq_false.2 fun z hz => by rw [hp z hz]; simp⟩⟩
theorem c_containsEn (g : FuncId) (hg : calleeOK Try.prog g = true) (cs : List Value) (q : En → Bool) (l : List En) (a : Option Addr) (c m : Nat) (hm : m = l.length) (w : World) (hn : ∀ x ∈ l, ∀ w', Sub w w' → FC Try.prog g ([x.val] ++ cs) w' (Val (.bool (q x)) w')) (hl : Sl w a 10 (l.map En.cells)) (hb : l.length ≤ 1000000) :
    FC Try.prog 25 [.slice a m c, .func (.func g) #[] cs.toArray] w (Val (.bool (l.any q)) w) := by
  subst hm
  refine FC.intro Try.func25 rfl Try.ntmps25 rfl ?_
  have S := Sub.refl w
  refine RC.seq ?_
  refine RC.region rfl ?_
  refine RL.ev (.assign rfl) rfl rfl ?_
  refine RL.nil (RC.back ?_)
  refine RC.seq ?_
  refine RC.region rfl ?_
  refine RL.ev (.move rfl) rfl rfl ?_
  refine RL.ev (.move rfl) rfl rfl ?_
  refine RL.call rfl ok37 (c_indexEn g hg cs q l a c _ rfl w (fun x hx w' s => hn x hx w' (S.trans s)) (hl.sub S) hb) rfl rfl ?_
  rintro _ w1 ⟨s2, n, rfl, hn7⟩
  have S := S.trans s2
  refine RL.ev (.bin rfl rfl rfl) rfl rfl ?_
  refine RL.ev (.assign rfl) rfl rfl ?_
  refine RL.nil (RC.back ?_)
  refine RC.done (rs := [.tmp 4]) (vs := [_]) rfl rfl ⟨rfl, trivial⟩ ?_
  -- end 1
  rcases hn7 with ⟨h1, h2⟩ | ⟨h1, h2⟩
  rw [h2]
  exact ⟨congrArg Value.bool (decide_eq_false (by omega)), S⟩
  rw [h2]
  exact ⟨congrArg Value.bool (decide_eq_true (by omega)), S⟩
/-- rows of places -/
theorem c_indexFI (g : FuncId) (hg : calleeOK Try.prog g = true) (cs : List Value) (q : Int → Bool) (l : List Int) (a : Option Addr) (c m : Nat) (hm : m = l.length) (w : World) (hn : ∀ x ∈ l, ∀ w', Sub w w' → FC Try.prog g ([.int .i64 x] ++ cs) w' (Val (.bool (q x)) w')) (hl : Sl w a 1 (l.map fun x => [i6 x])) (hb : l.length ≤ 1000000) :
    FC Try.prog 35 [.slice a m c, .func (.func g) #[] cs.toArray] w (fun u w' => Sub w w' ∧ ∃ n, u = .int .i64 n ∧ (n < 0 ∧ l.any q = false ∨ 0 ≤ n ∧ l.any q = true)) := by
  subst hm
  refine FC.intro Try.func35 rfl Try.ntmps35 rfl ?_
  have S := Sub.refl w
  refine RC.seq ?_
  refine RC.region rfl ?_
  refine RL.ev (.assign rfl) rfl rfl ?_
  refine RL.nil (RC.back ?_)
  refine RC.seq ?_
  refine RC.seq ?_
  refine RC.region rfl ?_
  refine RL.ev (.move rfl) rfl rfl ?_
  refine RL.ev (.len sl23 rfl) rfl rfl ?_
  refine RL.ev (.move rfl) rfl rfl ?_
  refine RL.nil (RC.back ?_)
  refine RC.block ?_
  refine RC.loop (α := Nat) (fun i => [(0, .slice a l.length c), (1, .func (.func g) #[] cs.toArray), (7, .int .i64 (l.length : Int)), (8, .int .i64 (i : Int))]) (fun i w1 => (i ≤ l.length ∧ ∀ x ∈ l.take i, q x = false) ∧ Sub w w1) (fun i => l.length - i) 0 (keep_of (by repeat (first | exact trivial | refine And.intro rfl ?_))) (⟨⟨Nat.zero_le _, by simp⟩, S⟩) (fun i w1 hJ => ?_)
  obtain ⟨⟨hi, hp⟩, S⟩ := hJ
  refine RC.seq ?_
  refine RC.region rfl ?_
  refine RL.ev (.bin rfl rfl rfl) rfl rfl ?_
  refine RL.nil (RC.back ?_)
  refine RC.seq ?_
  refine RC.cond_dec rfl (fun h2 => ?_) (fun h2 => ?_)
  ·
    obtain ⟨x, hx⟩ := getSome (l := l) (i := i) (by omega)
    have hxm := List.mem_of_getElem? hx
    refine RC.skip (RC.back ?_)
    refine RC.seq ?_
    refine RC.block ?_
    refine RC.seq ?_
    refine RC.region rfl ?_
    refine RL.ev (.move rfl) rfl rfl ?_
    refine RL.ev (.assign rfl) rfl rfl ?_
    refine RL.nil (RC.back ?_)
    refine RC.seq ?_
    refine RC.region rfl ?_
    refine RL.ev (.move rfl) rfl rfl ?_
    refine RL.ev (.move rfl) rfl rfl ?_
    refine RL.ev (.move rfl) rfl rfl ?_
    refine RL.ev (.indexS sl23 rfl rfl (by omega) (hl.is (i := 0) (by simp only [List.length_map, List.length_cons, List.length_nil]; omega))) rfl rfl ?_
    refine RL.ev (.load1 sh3 rfl ((hl.sub S).one (enc := i6) (i := i) hx)) rfl rfl ?_
    refine RL.callv rfl rfl (us := []) (cs := cs) hg (hn x hxm w1 S) rfl rfl ?_
    rintro _ w3 ⟨rfl, s4⟩
    have S := S.trans s4
    refine RL.nil (RC.back ?_)
    refine RC.cond rfl (fun h5 => ?_) (fun h5 => ?_)
    ·
      have h16 : q x = true := h5
      refine RC.seq ?_
      refine RC.region rfl ?_
      refine RL.ev (.move rfl) rfl rfl ?_
      refine RL.ev (.assign rfl) rfl rfl ?_
      refine RL.nil (RC.back ?_)
      refine RC.done (rs := [.tmp 4]) (vs := [_]) rfl rfl ⟨rfl, trivial⟩ ?_
      -- end 1
      exact ⟨S, _, rfl, .inr ⟨by omega, List.any_eq_true.2 ⟨x, hxm, h16⟩⟩⟩
    ·
      have h16 : q x = false := h5
      refine RC.skip (RC.back ?_)
      refine RC.region rfl ?_
      refine RL.ev (.as (.bin rfl rfl rfl) (wi64 (y := ((i + 1 : Nat) : Int)) (by omega) (by omega))) rfl rfl ?_
      refine RL.ev (.move rfl) rfl rfl ?_
      exact RL.nil (fun a ka => ⟨i + 1, ⟨⟨by omega, fun z hz => by rw [List.take_add_one, hx] at hz; rcases List.mem_append.1 hz with hz | hz; exact hp z hz; have e : z = x := (by simpa using hz); rw [e]; exact h16⟩, S⟩, by omega, ka.keep (keep_of (by repeat (first | exact trivial | refine And.intro rfl ?_)))⟩)
  ·
    obtain rfl : i = l.length := (by omega)
    rw [List.take_length] at hp
    refine RC.exit rfl (RC.back ?_)
    refine RC.seq ?_
    refine RC.region rfl ?_
    refine RL.ev (.assign rfl) rfl rfl ?_
    refine RL.nil (RC.back ?_)
    refine RC.done (rs := [.tmp 4]) (vs := [_]) rfl rfl ⟨rfl, trivial⟩ ?_
    -- end 2
    exact ⟨S, _, rfl, .inl ⟨by decide, List.any_eq_false.2 fun z hz => by rw [hp z hz]; simp⟩⟩
theorem c_containsFI (g : FuncId) (hg : calleeOK Try.prog g = true) (cs : List Value) (q : Int → Bool) (l : List Int) (a : Option Addr) (c m : Nat) (hm : m = l.length) (w : World) (hn : ∀ x ∈ l, ∀ w', Sub w w' → FC Try.prog g ([.int .i64 x] ++ cs) w' (Val (.bool (q x)) w')) (hl : Sl w a 1 (l.map fun x => [i6 x])) (hb : l.length ≤ 1000000) :
    FC Try.prog 21 [.slice a m c, .func (.func g) #[] cs.toArray] w (Val (.bool (l.any q)) w) := by
  subst hm
  refine FC.intro Try.func21 rfl Try.ntmps21 rfl ?_
  have S := Sub.refl w
  refine RC.seq ?_
  refine RC.region rfl ?_
  refine RL.ev (.assign rfl) rfl rfl ?_
  refine RL.nil (RC.back ?_)
  refine RC.seq ?_
  refine RC.region rfl ?_
  refine RL.ev (.move rfl) rfl rfl ?_
  refine RL.ev (.move rfl) rfl rfl ?_
  refine RL.call rfl ok35 (c_indexFI g hg cs q l a c _ rfl w (fun x hx w' s => hn x hx w' (S.trans s)) (hl.sub S) hb) rfl rfl ?_
  rintro _ w1 ⟨s2, n, rfl, hn7⟩
  have S := S.trans s2
  refine RL.ev (.bin rfl rfl rfl) rfl rfl ?_
  refine RL.ev (.assign rfl) rfl rfl ?_
  refine RL.nil (RC.back ?_)
  refine RC.done (rs := [.tmp 4]) (vs := [_]) rfl rfl ⟨rfl, trivial⟩ ?_
  -- end 1
  rcases hn7 with ⟨h1, h2⟩ | ⟨h1, h2⟩
  rw [h2]
  exact ⟨congrArg Value.bool (decide_eq_false (by omega)), S⟩
  rw [h2]
  exact ⟨congrArg Value.bool (decide_eq_true (by omega)), S⟩
theorem c_indexI (l : List Int) (a : Option Addr) (c m : Nat) (hm : m = l.length) (v : Int) (w : World) (hl : Sl w a 1 (l.map fun x => [i6 x])) (hb : l.length ≤ 1000000) :
    FC Try.prog 34 [.slice a m c, .int .i64 v] w (fun u w' => Sub w w' ∧ ∃ n, u = .int .i64 n ∧ (n < 0 ∧ ¬ v ∈ l ∨ 0 ≤ n ∧ v ∈ l)) := by
  subst hm
  refine FC.intro Try.func34 rfl Try.ntmps34 rfl ?_
  have S := Sub.refl w
  refine RC.seq ?_
  refine RC.region rfl ?_
  refine RL.ev (.assign rfl) rfl rfl ?_
  refine RL.nil (RC.back ?_)
  refine RC.seq ?_
  refine RC.seq ?_
  refine RC.region rfl ?_
  refine RL.ev (.move rfl) rfl rfl ?_
  refine RL.ev (.len sl23 rfl) rfl rfl ?_
  refine RL.ev (.move rfl) rfl rfl ?_
  refine RL.nil (RC.back ?_)
  refine RC.block ?_
  refine RC.loop (α := Nat) (fun i => [(0, .slice a l.length c), (1, .int .i64 v), (7, .int .i64 (l.length : Int)), (8, .int .i64 (i : Int))]) (fun i w1 => (i ≤ l.length ∧ ∀ x ∈ l.take i, ¬ v = x) ∧ Sub w w1) (fun i => l.length - i) 0 (keep_of (by repeat (first | exact trivial | refine And.intro rfl ?_))) (⟨⟨Nat.zero_le _, by simp⟩, S⟩) (fun i w1 hJ => ?_)
  obtain ⟨⟨hi, hp⟩, S⟩ := hJ
  refine RC.seq ?_
  refine RC.region rfl ?_
  refine RL.ev (.bin rfl rfl rfl) rfl rfl ?_
  refine RL.nil (RC.back ?_)
  refine RC.seq ?_
  refine RC.cond_dec rfl (fun h2 => ?_) (fun h2 => ?_)
  ·
    obtain ⟨x, hx⟩ := getSome (l := l) (i := i) (by omega)
    have hxm := List.mem_of_getElem? hx
    refine RC.skip (RC.back ?_)
    refine RC.seq ?_
    refine RC.block ?_
    refine RC.seq ?_
    refine RC.region rfl ?_
    refine RL.ev (.move rfl) rfl rfl ?_
    refine RL.ev (.assign rfl) rfl rfl ?_
    refine RL.nil (RC.back ?_)
    refine RC.seq ?_
    refine RC.region rfl ?_
    refine RL.ev (.move rfl) rfl rfl ?_
    refine RL.ev (.move rfl) rfl rfl ?_
    refine RL.ev (.move rfl) rfl rfl ?_
    refine RL.ev (.indexS sl23 rfl rfl (by omega) (hl.is (i := 0) (by simp only [List.length_map, List.length_cons, List.length_nil]; omega))) rfl rfl ?_
    refine RL.ev (.load1 sh3 rfl ((hl.sub S).one (enc := i6) (i := i) hx)) rfl rfl ?_
    refine RL.ev (.bin rfl rfl rfl) rfl rfl ?_
    refine RL.nil (RC.back ?_)
    refine RC.cond_dec rfl (fun h3 => ?_) (fun h3 => ?_)
    ·
      have h16 : v = x := h3
      refine RC.seq ?_
      refine RC.region rfl ?_
      refine RL.ev (.move rfl) rfl rfl ?_
      refine RL.ev (.assign rfl) rfl rfl ?_
      refine RL.nil (RC.back ?_)
      refine RC.done (rs := [.tmp 4]) (vs := [_]) rfl rfl ⟨rfl, trivial⟩ ?_
      -- end 1
      exact ⟨S, _, rfl, .inr ⟨by omega, by rw [h16]; exact hxm⟩⟩
    ·
      have h16 : ¬ v = x := h3
      refine RC.skip (RC.back ?_)
      refine RC.region rfl ?_
      refine RL.ev (.as (.bin rfl rfl rfl) (wi64 (y := ((i + 1 : Nat) : Int)) (by omega) (by omega))) rfl rfl ?_
      refine RL.ev (.move rfl) rfl rfl ?_
      exact RL.nil (fun a ka => ⟨i + 1, ⟨⟨by omega, fun z hz => by rw [List.take_add_one, hx] at hz; rcases List.mem_append.1 hz with hz | hz; exact hp z hz; have e : z = x := (by simpa using hz); rw [e]; exact h16⟩, S⟩, by omega, ka.keep (keep_of (by repeat (first | exact trivial | refine And.intro rfl ?_)))⟩)
  ·
    obtain rfl : i = l.length := (by omega)
    rw [List.take_length] at hp
    refine RC.exit rfl (RC.back ?_)
    refine RC.seq ?_
    refine RC.region rfl ?_
    refine RL.ev (.assign rfl) rfl rfl ?_
    refine RL.nil (RC.back ?_)
    refine RC.done (rs := [.tmp 4]) (vs := [_]) rfl rfl ⟨rfl, trivial⟩ ?_
    -- end 2
    exact ⟨S, _, rfl, .inl ⟨by decide, fun e => hp v e rfl⟩⟩
theorem c_containsI (l : List Int) (a : Option Addr) (c m : Nat) (hm : m = l.length) (v : Int) (w : World) (hl : Sl w a 1 (l.map fun x => [i6 x])) (hb : l.length ≤ 1000000) :
    FC Try.prog 19 [.slice a m c, .int .i64 v] w (Val (.bool (decide (v ∈ l))) w) := by
  subst hm
  refine FC.intro Try.func19 rfl Try.ntmps19 rfl ?_
  have S := Sub.refl w
  refine RC.seq ?_
  refine RC.region rfl ?_
  refine RL.ev (.assign rfl) rfl rfl ?_
  refine RL.nil (RC.back ?_)
  refine RC.seq ?_
  refine RC.region rfl ?_
  refine RL.ev (.move rfl) rfl rfl ?_
  refine RL.ev (.move rfl) rfl rfl ?_
  refine RL.call rfl ok34 (c_indexI l a c _ rfl v w (hl.sub S) hb) rfl rfl ?_
  rintro _ w1 ⟨s2, n, rfl, hn7⟩
  have S := S.trans s2
  refine RL.ev (.bin rfl rfl rfl) rfl rfl ?_
  refine RL.ev (.assign rfl) rfl rfl ?_
  refine RL.nil (RC.back ?_)
  refine RC.done (rs := [.tmp 4]) (vs := [_]) rfl rfl ⟨rfl, trivial⟩ ?_
  -- end 1
  rcases hn7 with ⟨h1, h2⟩ | ⟨h1, h2⟩
  rw [decide_eq_false h2]
  exact ⟨congrArg Value.bool (decide_eq_false (by omega)), S⟩
  rw [decide_eq_true h2]
  exact ⟨congrArg Value.bool (decide_eq_true (by omega)), S⟩
theorem c_hRight (l : List En) (a : Option Addr) (c m : Nat) (hm : m = l.length) (w : World) (hl : Sl w a 10 (l.map En.cells)) (hb : l.length ≤ 1000000) :
    FC Try.prog 13 [.slice a m c] w (Val (.bool (pB (rightH l))) w) := by
  subst hm
  refine FC.intro Try.func13 rfl Try.ntmps13 rfl ?_
  have S := Sub.refl w
  refine RC.seq ?_
  refine RC.region rfl ?_
  refine RL.ev (.assign rfl) rfl rfl ?_
  refine RL.nil (RC.back ?_)
  refine RC.seq ?_
  refine RC.region rfl ?_
  refine RL.ev (.move rfl) rfl rfl ?_
  refine RL.ev (.len sl22 rfl) rfl rfl ?_
  refine RL.ev (.bin rfl rfl rfl) rfl rfl ?_
  refine RL.ev (.move rfl) rfl rfl ?_
  refine RL.split 6 rfl (fun h1 => ?_) (fun h1 => ?_)
  ·
    have g6 : l.length ≤ 200 := (by omega)
    refine RL.ev (.move rfl) rfl rfl ?_
    refine RL.call rfl ok25 (c_containsEn 26 ok26 [] (fun x => !decide (rightE x)) l a c _ rfl w (fun x _ w' _ => c_hRight1 x w') (hl.sub S) hb) rfl rfl ?_
    rintro _ w2 ⟨rfl, s3⟩
    have S := S.trans s3
    refine RL.ev (.not rfl) rfl rfl ?_
    refine RL.ev (.pick_t rfl rfl) rfl rfl ?_
    refine RL.ev (.assign rfl) rfl rfl ?_
    refine RL.nil (RC.back ?_)
    refine RC.done (rs := [.tmp 2]) (vs := [_]) rfl rfl ⟨rfl, trivial⟩ ?_
    -- end 1
    refine ⟨congrArg Value.bool ?_, S⟩
    first | exact (pB_no (fun e => g6 e.2)).symm | (rw [Bool.eq_iff_iff, pB_iff, Bool.not_eq_true', List.any_eq_false]; exact ⟨fun h => ⟨fun x hx => by have := h x hx; simpa using this, g6⟩, fun h x hx => by have := h.1 x hx; simpa using this⟩)
  ·
    have g6 : ¬ l.length ≤ 200 := (by omega)
    refine RL.off rfl rfl ?_
    refine RL.off rfl rfl ?_
    refine RL.off rfl rfl ?_
    refine RL.ev (.pick_f rfl rfl) rfl rfl ?_
    refine RL.ev (.assign rfl) rfl rfl ?_
    refine RL.nil (RC.back ?_)
    refine RC.done (rs := [.tmp 2]) (vs := [_]) rfl rfl ⟨rfl, trivial⟩ ?_
    -- end 2
    refine ⟨congrArg Value.bool ?_, S⟩
    first | exact (pB_no (fun e => g6 e.2)).symm | (rw [Bool.eq_iff_iff, pB_iff, Bool.not_eq_true', List.any_eq_false]; exact ⟨fun h => ⟨fun x hx => by have := h x hx; simpa using this, g6⟩, fun h x hx => by have := h.1 x hx; simpa using this⟩)
theorem c_ahead (x y : En) (w : World) : FC Try.prog 20 [x.val, y.val] w (Val (.bool (decide (x.to < y.fr))) w) := by
  refine FC.intro Try.func20 rfl Try.ntmps20 rfl ?_
  have S := Sub.refl w
  refine RC.seq ?_
  refine RC.region rfl ?_
  refine RL.box rfl rfl rfl (fun b_2 w_2 e_2 z_2 hb_2 s_2 => ?_)
  have ge_2 := S.le e_2
  have S := S.trans s_2
  have hb_2 : Has w_2 b_2 (x.cells) _ := hb_2
  refine RL.box rfl rfl rfl (fun b_3 w_3 e_3 z_3 hb_3 s_3 => ?_)
  have ge_3 := S.le e_3
  have n_2__3 := hb_2.ne e_3
  have S := S.trans s_3
  have hb_2 := hb_2.sub s_3
  have hb_3 : Has w_3 b_3 (y.cells) _ := hb_3
  refine RL.ev (.assign rfl) rfl rfl ?_
  refine RL.nil (RC.back ?_)
  refine RC.seq ?_
  refine RC.region rfl ?_
  refine RL.ev (.field0 fo48_4 rfl) rfl rfl ?_
  refine RL.ev (.load1 sh3 rfl (hb_2.cell rfl)) rfl rfl ?_
  refine RL.ev (.field0 fo48_3 rfl) rfl rfl ?_
  refine RL.ev (.load1 sh3 rfl (hb_3.cell rfl)) rfl rfl ?_
  refine RL.ev (.bin rfl rfl rfl) rfl rfl ?_
  refine RL.ev (.assign rfl) rfl rfl ?_
  refine RL.nil (RC.back ?_)
  refine RC.done (rs := [.tmp 4]) (vs := [_]) rfl rfl ⟨rfl, trivial⟩ ?_
  -- end 1
  exact ⟨rfl, S⟩
/-- an answer -/
def AnsA (M : Nat → Prop) (w w' : World) (q : Mo × Bool) (u : Value) : Prop := Sub w w' ∧ ∃ p' M' r, u = .tuple #[moV p' r, .bool q.2] ∧ MoS p' r ∧ Ft M' (fun u => MoR u p' r) w' ∧ Up M w M' ∧ (q.2 = true → r = q.1)
theorem AnsDo.out {M : Nat → Prop} {w w' : World} {m : Mo} {o : OpT} {u : Value} (h : AnsDo M w w' m o u) : Sub w w' ∧ ∃ p' r1 r2 e M', u = .tuple #[moV p' r1, .agg (r2 : ResT).cells.toArray, .int .i64 e] ∧ MoS p' r1 ∧ Ft M' (fun u => MoR u p' r1) w' ∧ Up M w M' ∧ ((rightM m ∧ okP o) → r1 = (doM m o).1 ∧ r2 = (doM m o).2 ∧ e = 0) ∧ (¬ (rightM m ∧ okP o) → r1 = m0 ∧ r2 = res0 ∧ e = 1) := by
  obtain ⟨s, p', M', h1, h2, h3, h4⟩ := h
  refine ⟨s, p', _, _, _, M', h1, h2, h3, h4, fun g => ?_, fun g => ?_⟩
  · rw [pB_yes g]; exact ⟨rfl, rfl, rfl⟩
  · rw [pB_no g]; exact ⟨rfl, rfl, rfl⟩
theorem c_answers (p : Ph) (m : Mo) (hs : MoS p m) (hR : rightM m) (x : En) (hx : rightE x) (w : World) (M : Nat → Prop) (hF : Ft M (fun u => MoR u p m) w) :
    FC Try.prog 23 [moV p m, x.val] w (fun u w' => AnsA M w w' (ansM m x) u) := by
  refine FC.intro Try.func23 rfl Try.ntmps23 rfl ?_
  have S := Sub.refl w
  refine RC.seq ?_
  refine RC.region rfl ?_
  refine RL.box rfl rfl rfl (fun b_2 w_2 e_2 z_2 hb_2 s_2 => ?_)
  have ge_2 := S.le e_2
  have d_hF_b_2 := hF.neNew e_2
  have S := S.trans s_2
  have hF := hF.sub s_2
  have hb_2 : Has w_2 b_2 ([.slice p.a1 m.map.length p.c1, .slice p.a2 m.tab.length p.c2, .slice p.a3 m.row.length p.c3, .slice p.a4 m.heap.length p.c4]) _ := hb_2
  refine RL.box rfl rfl rfl (fun b_3 w_3 e_3 z_3 hb_3 s_3 => ?_)
  have ge_3 := S.le e_3
  have n_2__3 := hb_2.ne e_3
  have d_hF_b_3 := hF.neNew e_3
  have S := S.trans s_3
  have hF := hF.sub s_3
  have hb_2 := hb_2.sub s_3
  have hb_3 : Has w_3 b_3 (x.cells) _ := hb_3
  refine RL.alloc ze38 rfl rfl (fun b_4 w_4 e_4 z_4 hb_4 s_4 => ?_)
  have ge_4 := S.le e_4
  have n_2__4 := hb_2.ne e_4
  have n_3__4 := hb_3.ne e_4
  have d_hF_b_4 := hF.neNew e_4
  have S := S.trans s_4
  have hF := hF.sub s_4
  have hb_2 := hb_2.sub s_4
  have hb_3 := hb_3.sub s_4
  refine RL.ev (.assign rfl) rfl rfl ?_
  refine RL.nil (RC.back ?_)
  refine RC.seq ?_
  refine RC.seq ?_
  refine RC.region rfl ?_
  refine RL.ev (.field0 fo48_2 rfl) rfl rfl ?_
  refine RL.ev (.loadR (x.res.cells) sh43 rfl (Has.row_at (pre := [.int .i64 x.proc, .int .i64 x.op.box, .int .i64 x.op.kind, .int .i64 x.op.a, .int .i64 x.op.b]) (mid := x.res.cells) (post := [.int .i64 x.fr, .int .i64 x.to]) hb_3 rfl) rfl) rfl rfl ?_
  refine RL.ev (.as (v' := .agg fullR.cells.toArray) (.buildS ze43 pl43 rfl rfl) (by rfl)) rfl rfl ?_
  refine RL.ev (.eqS (xs := x.res.cells) (ys := fullR.cells) fk43 eg43 sh43 rfl rfl rfl rfl rfl) rfl rfl ?_
  refine RL.nil (RC.back ?_)
  refine RC.cond rfl (fun h1 => ?_) (fun h1 => ?_)
  ·
    have g12 : x.res = fullR := (by have q := h1; rw [eqL_res, decide_eq_true_iff] at q; exact q)
    refine RC.seq ?_
    refine RC.region rfl ?_
    refine RL.ev (.loadR ([.slice p.a1 m.map.length p.c1, .slice p.a2 m.tab.length p.c2, .slice p.a3 m.row.length p.c3, .slice p.a4 m.heap.length p.c4]) sh38 rfl hb_2.row rfl) rfl rfl ?_
    refine RL.store sh38 rfl rfl rfl hb_4 (by exact Nat.le_of_ble_eq_true rfl) (by rfl) rfl (fun w2 z2 hb_4 a2 => ?_)
    have S := S.upd a2 ge_4
    have hF := hF.updD a2 d_hF_b_4
    have hb_2 := hb_2.upd a2 n_2__4
    have hb_3 := hb_3.upd a2 n_3__4
    have hb_4 : Has w2 b_4 ([.slice p.a1 m.map.length p.c1, .slice p.a2 m.tab.length p.c2, .slice p.a3 m.row.length p.c3, .slice p.a4 m.heap.length p.c4]) _ := hb_4.now (by kernel_rfl)
    refine RL.ev (.assign rfl) rfl rfl ?_
    refine RL.nil (RC.back ?_)
    refine RC.done (rs := [.cell 4 38, .tmp 5]) (vs := [_, _]) rfl rfl ⟨⟨_, rfl, .inr ⟨[.slice p.a1 m.map.length p.c1, .slice p.a2 m.tab.length p.c2, .slice p.a3 m.row.length p.c3, .slice p.a4 m.heap.length p.c4], sh38, hb_4.row, rfl⟩⟩, rfl, trivial⟩ ?_
    -- end 1
    have ha : ansM m x = (m, true) := (by unfold ansM; rw [if_pos g12])
    rw [ha]
    exact ⟨S, p, M, m, rfl, hs, hF, Up.refl _ _, fun _ => rfl⟩
  ·
    have g12 : ¬ x.res = fullR := (by have q := h1; rw [eqL_res, decide_eq_false_iff_not] at q; exact q)
    refine RC.skip (RC.back ?_)
    refine RC.seq ?_
    refine RC.region rfl ?_
    refine RL.ev (.loadR ([.slice p.a1 m.map.length p.c1, .slice p.a2 m.tab.length p.c2, .slice p.a3 m.row.length p.c3, .slice p.a4 m.heap.length p.c4]) sh38 rfl hb_2.row rfl) rfl rfl ?_
    refine RL.ev (.field0 fo48_1 rfl) rfl rfl ?_
    refine RL.ev (.loadR (x.op.cells) sh40 rfl (Has.row_at (pre := [.int .i64 x.proc]) (mid := x.op.cells) (post := [.int .i64 x.res.e, .int .i64 x.res.a, .int .i64 x.res.b, .int .i64 x.fr, .int .i64 x.to]) hb_3 rfl) rfl) rfl rfl ?_
    refine RL.call rfl ok36 (c_Do p m hs x.op w_4 M hF) rfl rfl ?_
    rintro _ w3 h18
    obtain ⟨s4, p', r1, r2, e, M', rfl, hs', hF', hup, hy, _⟩ := h18.out
    obtain ⟨e1, e2, e3⟩ := hy ⟨hR, hx.1⟩
    subst e1 e2 e3
    have d_hF'_b_2 := upNe hup d_hF_b_2 hb_2.lt
    have d_hF'_b_3 := upNe hup d_hF_b_3 hb_3.lt
    have d_hF'_b_4 := upNe hup d_hF_b_4 hb_4.lt
    have hup := hup.le S.size
    have S := S.trans s4
    have hF := hF.sub s4
    have hb_2 := hb_2.sub s4
    have hb_3 := hb_3.sub s4
    have hb_4 := hb_4.sub s4
    refine RL.ev (.move rfl) rfl rfl ?_
    refine RL.ev (.extract rfl rfl) rfl rfl ?_
    refine RL.ev (.extract rfl rfl) rfl rfl ?_
    refine RL.ev (.extract rfl rfl) rfl rfl ?_
    refine RL.alloc ze38 rfl rfl (fun b_6 w_6 e_6 z_6 hb_6 s_6 => ?_)
    have ge_6 := S.le e_6
    have n_2__6 := hb_2.ne e_6
    have n_3__6 := hb_3.ne e_6
    have n_4__6 := hb_4.ne e_6
    have d_hF'_b_6 := hF'.neNew e_6
    have S := S.trans s_6
    have hb_2 := hb_2.sub s_6
    have hb_3 := hb_3.sub s_6
    have hb_4 := hb_4.sub s_6
    have hF' := hF'.sub s_6
    refine RL.alloc ze43 rfl rfl (fun b_7 w_7 e_7 z_7 hb_7 s_7 => ?_)
    have ge_7 := S.le e_7
    have n_2__7 := hb_2.ne e_7
    have n_3__7 := hb_3.ne e_7
    have n_4__7 := hb_4.ne e_7
    have n_6__7 := hb_6.ne e_7
    have d_hF'_b_7 := hF'.neNew e_7
    have S := S.trans s_7
    have hb_2 := hb_2.sub s_7
    have hb_3 := hb_3.sub s_7
    have hb_4 := hb_4.sub s_7
    have hF' := hF'.sub s_7
    have hb_6 := hb_6.sub s_7
    refine RL.store sh38 rfl rfl rfl hb_6 (by exact Nat.le_of_ble_eq_true rfl) (by rfl) rfl (fun w5 z5 hb_6 a5 => ?_)
    have S := S.upd a5 ge_6
    have hb_2 := hb_2.upd a5 n_2__6
    have hb_3 := hb_3.upd a5 n_3__6
    have hb_4 := hb_4.upd a5 n_4__6
    have hF' := hF'.updD a5 d_hF'_b_6
    have hb_7 := hb_7.upd a5 n_6__7.symm
    have hb_6 : Has w5 b_6 ([.slice p'.a1 (doM m x.op).1.map.length p'.c1, .slice p'.a2 (doM m x.op).1.tab.length p'.c2, .slice p'.a3 (doM m x.op).1.row.length p'.c3, .slice p'.a4 (doM m x.op).1.heap.length p'.c4]) _ := hb_6.now (by kernel_rfl)
    refine RL.store sh43 rfl rfl rfl hb_7 (by exact Nat.le_of_ble_eq_true rfl) (by rfl) rfl (fun w6 z6 hb_7 a6 => ?_)
    have S := S.upd a6 ge_7
    have hb_2 := hb_2.upd a6 n_2__7
    have hb_3 := hb_3.upd a6 n_3__7
    have hb_4 := hb_4.upd a6 n_4__7
    have hF' := hF'.updD a6 d_hF'_b_7
    have hb_6 := hb_6.upd a6 n_6__7
    have hb_7 : Has w6 b_7 ((doM m x.op).2.cells) _ := hb_7.now (by kernel_rfl)
    refine RL.ev (.assign rfl) rfl rfl ?_
    refine RL.nil (RC.back ?_)
    refine RC.seq ?_
    refine RC.drawD (fun k => k = b_4) [9] w6.heap.size 11 rfl rfl mxo (fun w7 s8 => ?_)
    have hNN : ∀ k, ((k = b_4) ∨ w6.heap.size ≤ k) → w.heap.size ≤ k := fun k e => e.elim (fun e => e ▸ ge_4) (fun e => Nat.le_trans S.size e)
    have ent_S := S.size
    have hN0 : ∀ k, w6.heap.size ≤ k → w.heap.size ≤ k := fun k e => Nat.le_trans S.size e
    have ltD_b_2 := hb_2.lt
    have ltD_b_3 := hb_3.lt
    have ltD_b_4 := hb_4.lt
    have ltD_hF' := fun k hk => (hF'.ge k hk).2
    have ltD_b_6 := hb_6.lt
    have ltD_b_7 := hb_7.lt
    have szD := Nat.le_refl w6.heap.size
    have S := S.trans s8
    have hb_2 := hb_2.sub s8
    have hb_3 := hb_3.sub s8
    have hb_4 := hb_4.sub s8
    have hF' := hF'.sub s8
    have hb_6 := hb_6.sub s8
    have hb_7 := hb_7.sub s8
    have szD := Nat.le_trans szD s8.size
    refine RD.take 0 rfl (by kernel_rfl) (by kernel_rfl) (by kernel_rfl) (fun w' s' => .loadR ([.slice p'.a1 (doM m x.op).1.map.length p'.c1, .slice p'.a2 (doM m x.op).1.tab.length p'.c2, .slice p'.a3 (doM m x.op).1.row.length p'.c3, .slice p'.a4 (doM m x.op).1.heap.length p'.c4]) sh38 rfl (hb_6.step s' (fun e => e.elim (fun e => n_4__6.symm e) (fun e => Nat.not_le.2 ltD_b_6 e))).row rfl) rfl rfl ?_
    refine RD.take 1 rfl (by kernel_rfl) (by kernel_rfl) (by kernel_rfl) (fun w' s' => .move rfl) rfl rfl ?_
    refine RD.take 2 rfl (by kernel_rfl) (by kernel_rfl) (by kernel_rfl) (fun w' s' => .as (v' := .bool true) (.bin rfl rfl rfl) (congrArg Value.bool (decide_eq_true (rfl)))) rfl rfl ?_
    refine RD.take 3 rfl (by kernel_rfl) (by kernel_rfl) (by kernel_rfl) (fun w' s' => .move rfl) rfl rfl ?_
    refine RD.take 4 rfl (by kernel_rfl) (by kernel_rfl) (by kernel_rfl) (fun w' s' => .loadR ((doM m x.op).2.cells) sh43 rfl (hb_7.step s' (fun e => e.elim (fun e => n_4__7.symm e) (fun e => Nat.not_le.2 ltD_b_7 e))).row rfl) rfl rfl ?_
    refine RD.take 5 rfl (by kernel_rfl) (by kernel_rfl) (by kernel_rfl) (fun w' s' => .field0 fo48_2 rfl) rfl rfl ?_
    refine RD.take 6 rfl (by kernel_rfl) (by kernel_rfl) (by kernel_rfl) (fun w' s' => .loadR (x.res.cells) sh43 rfl (Has.row_at (pre := [.int .i64 x.proc, .int .i64 x.op.box, .int .i64 x.op.kind, .int .i64 x.op.a, .int .i64 x.op.b]) (mid := x.res.cells) (post := [.int .i64 x.fr, .int .i64 x.to]) (hb_3.step s' (fun e => e.elim (fun e => n_3__4 e) (fun e => Nat.not_le.2 ltD_b_3 e))) rfl) rfl) rfl rfl ?_
    refine RD.take 7 rfl (by kernel_rfl) (by kernel_rfl) (by kernel_rfl) (fun w' s' => .as (v' := .bool (decide ((doM m x.op).2 = x.res))) (.eqS (xs := (doM m x.op).2.cells) (ys := x.res.cells) fk43 eg43 sh43 rfl rfl rfl rfl rfl) (by rw [eqL_res])) rfl rfl ?_
    refine RD.take 8 rfl (by kernel_rfl) (by kernel_rfl) (by kernel_rfl) (fun w' s' => .pick_t rfl rfl) rfl rfl ?_
    refine RD.all [9] (by kernel_rfl) rfl (RDs.cons rfl ?_ (RDs.nil))
    refine RL.store sh38 rfl rfl rfl hb_4 (by exact Nat.le_of_ble_eq_true rfl) (by rfl) rfl (fun w9 z9 hb_4 a9 => ?_)
    have S := S.upd a9 ge_4
    have hb_2 := hb_2.upd a9 n_2__4
    have hb_3 := hb_3.upd a9 n_3__4
    have hF' := hF'.updD a9 d_hF'_b_4
    have hb_6 := hb_6.upd a9 n_4__6.symm
    have hb_7 := hb_7.upd a9 n_4__7.symm
    have szD := Nat.le_trans szD a9.size
    have hb_4 : Has w9 b_4 ([.slice p'.a1 (doM m x.op).1.map.length p'.c1, .slice p'.a2 (doM m x.op).1.tab.length p'.c2, .slice p'.a3 (doM m x.op).1.row.length p'.c3, .slice p'.a4 (doM m x.op).1.heap.length p'.c4]) _ := hb_4.now (by kernel_rfl)
    refine RD.backW rfl (a9.mono fun k _ e => e ▸ (.inl (rfl))) ?_
    refine RD.take 10 rfl (by kernel_rfl) (by kernel_rfl) (by kernel_rfl) (fun w' s' => .assign rfl) rfl rfl ?_
    refine RD.done (by kernel_rfl) (RC.back ?_)
    refine RC.done (rs := [.cell 4 38, .tmp 5]) (vs := [_, _]) rfl rfl ⟨⟨_, rfl, .inr ⟨[.slice p'.a1 (doM m x.op).1.map.length p'.c1, .slice p'.a2 (doM m x.op).1.tab.length p'.c2, .slice p'.a3 (doM m x.op).1.row.length p'.c3, .slice p'.a4 (doM m x.op).1.heap.length p'.c4], sh38, hb_4.row, rfl⟩⟩, rfl, trivial⟩ ?_
    -- end 2
    have ha : ansM m x = ((doM m x.op).1, decide ((doM m x.op).2 = x.res)) := (by unfold ansM; rw [if_neg g12])
    rw [ha]
    exact ⟨S, p', _, _, rfl, hs', hF', hup, fun _ => rfl⟩
end Go.Proofs.Ytlhnnleaiinjaaa
set_option linter.unusedVariables false
set_option linter.unusedSimpArgs false
namespace Go.Proofs.Ytlhnnleaiinjaaa
open Go Go.XL
theorem fill_step {n i : Nat} (h : i < n) : (natsI i ++ List.replicate (n - i) (0 : Int)).set i (i : Int) = natsI (i + 1) ++ List.replicate (n - (i + 1)) 0 := by
  rw [List.set_append_right _ _ (by rw [natsI_len]; exact Nat.le_refl _), natsI_len, Nat.sub_self, show n - i = (n - (i + 1)) + 1 by omega, List.replicate_succ, List.set_cons_zero, natsI_succ, List.append_assoc]; rfl
theorem c_places (n : Nat) (hn : n ≤ 1000) (w : World) : FC Try.prog 22 [.int .i64 (n : Int)] w (fun u w' => ∃ a c, u = .slice a n c ∧ Sl w' a 1 ((natsI n).map fun x => [i6 x]) ∧ Sub w w') := by
  refine FC.intro Try.func22 rfl Try.ntmps22 rfl ?_
  have S := Sub.refl w
  refine RC.seq ?_
  refine RC.region rfl ?_
  refine RL.ev (.assign rfl) rfl rfl ?_
  refine RL.nil (RC.back ?_)
  refine RC.seq ?_
  refine RC.region rfl ?_
  refine RL.ev (.move rfl) rfl rfl ?_
  refine RL.makeSlice sl23 ze3 rfl rfl rfl rfl (by omega) rfl rfl (fun b_6 w_6 e_6 z_6 hb_6 s_6 => ?_)
  have ge_6 := S.le e_6
  have S := S.trans s_6
  have hb_6 : Has w_6 b_6 ((natsI 0 ++ List.replicate (n - 0) (0 : Int)).map i6) 3 := (by rw [show (natsI 0 ++ List.replicate (n - 0) (0 : Int)).map i6 = (List.replicate n [i6 0]).flatten from by rw [rep1]; simp [natsI]]; exact hb_6)
  refine RL.ev (.assign rfl) rfl rfl ?_
  refine RL.nil (RC.back ?_)
  refine RC.seq ?_
  refine RC.seq ?_
  refine RC.region rfl ?_
  refine RL.ev (.move rfl) rfl rfl ?_
  refine RL.ev (.len sl23 rfl) rfl rfl ?_
  refine RL.ev (.move rfl) rfl rfl ?_
  refine RL.nil (RC.back ?_)
  refine RC.block ?_
  refine RC.loop (α := Nat) (fun i => [(3, .slice (some ⟨b_6, 0, none⟩) n n), (8, .int .i64 (n : Int)), (9, .int .i64 (i : Int))]) (fun i w1 => i ≤ n ∧ Has w1 b_6 ((natsI i ++ List.replicate (n - i) (0 : Int)).map i6) 3 ∧ Sub w w1) (fun i => n - i) 0 (keep_of (by repeat (first | exact trivial | refine And.intro rfl ?_))) (⟨Nat.zero_le _, hb_6, S⟩) (fun i w1 hJ => ?_)
  obtain ⟨hi, hb_6, S⟩ := hJ
  refine RC.seq ?_
  refine RC.region rfl ?_
  refine RL.ev (.bin rfl rfl rfl) rfl rfl ?_
  refine RL.nil (RC.back ?_)
  refine RC.seq ?_
  refine RC.cond_dec rfl (fun h2 => ?_) (fun h2 => ?_)
  ·
    refine RC.skip (RC.back ?_)
    refine RC.seq ?_
    refine RC.block ?_
    refine RC.seq ?_
    refine RC.region rfl ?_
    refine RL.ev (.move rfl) rfl rfl ?_
    refine RL.ev (.assign rfl) rfl rfl ?_
    refine RL.nil (RC.back ?_)
    refine RC.region rfl ?_
    refine RL.ev (.move rfl) rfl rfl ?_
    refine RL.ev (.move rfl) rfl rfl ?_
    refine RL.ev (.move rfl) rfl rfl ?_
    refine RL.ev (.indexO sl23 rfl rfl (by omega)) rfl rfl ?_
    refine RL.store sh3 rfl rfl rfl hb_6 (by rw [List.length_map, List.length_append, natsI_len, List.length_replicate]; show _ + i * 1 + 1 ≤ _; omega) (by rfl) rfl (fun w3 z3 hb_6 a3 => ?_)
    have S := S.upd a3 ge_6
    have hb_6 : Has w3 b_6 ((natsI (i + 1) ++ List.replicate (n - (i + 1)) (0 : Int)).map i6) 3 := (by rw [← fill_step (by omega)]; refine Has.set1 ?_; have e : 0 + (i : Int).toNat * 1 = i := (by rw [Int.toNat_natCast]; omega); rw [e] at hb_6; exact hb_6)
    refine RL.nil (RC.back ?_)
    refine RC.region rfl ?_
    refine RL.ev (.as (.bin rfl rfl rfl) (wi64 (y := ((i + 1 : Nat) : Int)) (by omega) (by omega))) rfl rfl ?_
    refine RL.ev (.move rfl) rfl rfl ?_
    exact RL.nil (fun a ka => ⟨i + 1, ⟨by omega, hb_6, S⟩, by omega, ka.keep (keep_of (by repeat (first | exact trivial | refine And.intro rfl ?_)))⟩)
  ·
    obtain rfl : i = n := (by omega)
    rw [Nat.sub_self, List.replicate_zero, List.append_nil] at hb_6
    refine RC.exit rfl (RC.back ?_)
    refine RC.seq ?_
    refine RC.region rfl ?_
    refine RL.ev (.move rfl) rfl rfl ?_
    refine RL.ev (.assign rfl) rfl rfl ?_
    refine RL.nil (RC.back ?_)
    refine RC.done (rs := [.tmp 2]) (vs := [_]) rfl rfl ⟨rfl, trivial⟩ ?_
    -- end 1
    exact ⟨_, _, rfl, Has.sl1 hb_6, S⟩
def lateB (l : List En) (o : List Int) (i : Int) (x : En) (j : Int) : Bool := decide (¬ j = i ∧ ¬ j ∈ o ∧ (enAt l j).to < x.fr)
theorem c_late (l : List En) (la : Option Addr) (lc : Nat) (o : List Int) (oa : Option Addr) (oc : Nat) (i : Int) (x : En) (bi bo bl bx : Nat) (j : Int) (hj : 0 ≤ j ∧ j < l.length) (hlen : l.length ≤ 1000) (hol : o.length ≤ 1000) (w : World) (hbi : Has w bi [i6 i] 3) (hbo : Has w bo [.slice oa o.length oc] 23) (hbl : Has w bl [.slice la l.length lc] 22) (hbx : Has w bx x.cells 48) (hl : Sl w la 10 (l.map En.cells)) (ho : Sl w oa 1 (o.map fun x => [i6 x])) :
    FC Try.prog 18 [.int .i64 j, .pointer (some ⟨bi, 0, none⟩), .pointer (some ⟨bo, 0, none⟩), .pointer (some ⟨bl, 0, none⟩), .pointer (some ⟨bx, 0, none⟩)] w (Val (.bool (lateB l o i x j)) w) := by
  obtain ⟨jn, rfl⟩ := Int.eq_ofNat_of_zero_le hj.1
  obtain ⟨y, hy⟩ := getSome (l := l) (i := jn) (by omega)
  have hya := enAt_get hy
  refine FC.intro Try.func18 rfl Try.ntmps18 rfl ?_
  have S := Sub.refl w
  refine RC.seq ?_
  refine RC.region rfl ?_
  refine RL.ev (.assign rfl) rfl rfl ?_
  refine RL.nil (RC.back ?_)
  refine RC.seq ?_
  refine RC.draw rfl mxo (by kernel_rfl) ?_
  refine RQ.ev (.move rfl) rfl rfl ?_
  refine RQ.ev (.load1 sh3 rfl (hbi.cell rfl)) rfl rfl ?_
  refine RQ.ev (.bin rfl rfl rfl) rfl rfl ?_
  refine RQ.ev (.move rfl) rfl rfl ?_
  refine RQ.split 10 rfl (fun h1 => ?_) (fun h1 => ?_)
  ·
    have g10 : ¬ (jn : Int) = i := h1
    refine RQ.ev (.load1 sh23 rfl (hbo.cell rfl)) rfl rfl ?_
    refine RQ.ev (.move rfl) rfl rfl ?_
    refine RQ.call rfl ok19 (fun w' s' => c_containsI o oa oc _ rfl (jn : Int) w' ((ho.sub (S.trans s'))) (by omega)) rfl rfl ?_
    refine RQ.ev (.not rfl) rfl rfl ?_
    refine RQ.ev (.pick_t rfl rfl) rfl rfl ?_
    refine RQ.ev (.move rfl) rfl rfl ?_
    refine RQ.splitB 16 rfl (fun h2 => ?_) (fun h2 => ?_)
    ·
      have g16 : ¬ (jn : Int) ∈ o := (by simpa using h2)
      refine RQ.ev (.load1 sh22 rfl (hbl.cell rfl)) rfl rfl ?_
      refine RQ.ev (.move rfl) rfl rfl ?_
      refine RQ.ev (.indexS sl22 rfl rfl (by omega) (hl.is (i := 0) (by simp only [List.length_map, List.length_cons, List.length_nil]; omega))) rfl rfl ?_
      refine RQ.ev (.loadR (y.cells) sh48 rfl (hl.rowAt (enc := En.cells) (i := jn) hy) rfl) rfl rfl ?_
      refine RQ.ev (.loadR (x.cells) sh48 rfl hbx.row rfl) rfl rfl ?_
      refine RQ.call rfl ok20 (fun w' s' => c_ahead y x w') rfl rfl ?_
      refine RQ.ev (.pick_t rfl rfl) rfl rfl ?_
      refine RQ.ev (.assign rfl) rfl rfl ?_
      refine RQ.nil (fun w3 s4 => RC.back ?_)
      have S := S.trans s4
      have hbi := hbi.sub s4
      have hbo := hbo.sub s4
      have hbl := hbl.sub s4
      have hbx := hbx.sub s4
      refine RC.done (rs := [.tmp 6]) (vs := [_]) rfl rfl ⟨rfl, trivial⟩ ?_
      -- end 1
      refine ⟨congrArg Value.bool ?_, S⟩
      unfold lateB
      rw [hya]
      exact decide_eq_decide.2 ⟨fun h => ⟨g10, g16, h⟩, fun h => h.2.2⟩
    ·
      have g16 : (jn : Int) ∈ o := (by simpa using h2)
      refine RQ.off rfl rfl ?_
      refine RQ.off rfl rfl ?_
      refine RQ.off rfl rfl ?_
      refine RQ.off rfl rfl ?_
      refine RQ.off rfl rfl ?_
      refine RQ.off rfl rfl ?_
      refine RQ.ev (.pick_f rfl rfl) rfl rfl ?_
      refine RQ.ev (.assign rfl) rfl rfl ?_
      refine RQ.nil (fun w5 s6 => RC.back ?_)
      have S := S.trans s6
      have hbi := hbi.sub s6
      have hbo := hbo.sub s6
      have hbl := hbl.sub s6
      have hbx := hbx.sub s6
      refine RC.done (rs := [.tmp 6]) (vs := [_]) rfl rfl ⟨rfl, trivial⟩ ?_
      -- end 2
      refine ⟨congrArg Value.bool ?_, S⟩
      unfold lateB
      rw [hya]
      exact (decide_eq_false (fun e => e.2.1 g16)).symm
  ·
    have g10 : (jn : Int) = i := Classical.not_not.1 h1
    refine RQ.off rfl rfl ?_
    refine RQ.off rfl rfl ?_
    refine RQ.off rfl rfl ?_
    refine RQ.off rfl rfl ?_
    refine RQ.ev (.pick_f rfl rfl) rfl rfl ?_
    refine RQ.ev (.move rfl) rfl rfl ?_
    refine RQ.off rfl rfl ?_
    refine RQ.off rfl rfl ?_
    refine RQ.off rfl rfl ?_
    refine RQ.off rfl rfl ?_
    refine RQ.off rfl rfl ?_
    refine RQ.off rfl rfl ?_
    refine RQ.ev (.pick_f rfl rfl) rfl rfl ?_
    refine RQ.ev (.assign rfl) rfl rfl ?_
    refine RQ.nil (fun w7 s8 => RC.back ?_)
    have S := S.trans s8
    have hbi := hbi.sub s8
    have hbo := hbo.sub s8
    have hbl := hbl.sub s8
    have hbx := hbx.sub s8
    refine RC.done (rs := [.tmp 6]) (vs := [_]) rfl rfl ⟨rfl, trivial⟩ ?_
    -- end 3
    refine ⟨congrArg Value.bool ?_, S⟩
    unfold lateB
    rw [hya]
    exact (decide_eq_false (fun e => e.1 g10)).symm
theorem late_iff {l : List En} {o : List Int} {i : Nat} {x : En} (hx : l[i]? = some x) : (natsI l.length).any (lateB l o (i : Int) x) = true ↔ lateM l o i := by
  rw [List.any_eq_true]
  unfold lateM laterP
  rw [enAt_get hx]
  constructor
  · rintro ⟨j, hj, h⟩
    have hr := mem_natsI.1 hj
    obtain ⟨jn, rfl⟩ := Int.eq_ofNat_of_zero_le hr.1
    obtain ⟨h1, h2, h3⟩ := of_decide_eq_true h
    exact ⟨jn, by omega, fun e => h1 (by rw [e]), h2, h3⟩
  · rintro ⟨j, hj, h1, h2, h3⟩
    exact ⟨(j : Int), mem_natsI.2 (by omega), decide_eq_true ⟨fun e => h1 (by omega), h2, h3⟩⟩
theorem _root_.Go.XL.Ows.pop {base : Nat} {w : World} {e : TypeId} {sz m n c : Nat} {a : Option Addr} {rows : List (List Value)} {r : List Value} (h : Ows base w e sz (.slice a m c) (rows ++ [r])) (hn : n = rows.length) : Ows base w e sz (.slice a n c) rows := by
  subst hn
  obtain ⟨b, cap, extra, f, h1, h2, h3, h4, h5⟩ := h.has (by simp)
  cases f
  rw [List.flatten_append, List.append_assoc] at h4 h5
  exact Ows.of_has h4 (fun q hq => h.len q (by simp [hq])) h1 (by rw [List.length_append] at h2; omega) h3 h5
/-- what an append comes to is what it was, or new -/
def obR (w : World) (v0 v : Value) : Prop := ob v = ob v0 ∨ ∃ b, ob v = some b ∧ w.heap.size ≤ b
theorem obR.refl (w : World) (v : Value) : obR w v v := .inl rfl
theorem obR.trans {w w1 : World} {v0 v1 v2 : Value} (h : obR w v0 v1) (k : obR w1 v1 v2) (s : w.heap.size ≤ w1.heap.size) : obR w v0 v2 := by
  rcases k with k | ⟨b, k1, k2⟩
  · rcases h with h | ⟨b, h1, h2⟩
    · exact .inl (k.trans h)
    · exact .inr ⟨b, k.trans h1, h2⟩
  · exact .inr ⟨b, k1, Nat.le_trans s k2⟩
theorem ob_len (a : Option Addr) (n c n' c' : Nat) : ob (.slice a n c) = ob (.slice a n' c') := by
  unfold ob Value.ownBlock
  cases a with
  | none => rfl
  | some x => obtain ⟨b, o, s⟩ := x; cases o <;> cases s <;> rfl
theorem obR.len {w : World} {v0 : Value} {a : Option Addr} {n c n' c' : Nat} (h : obR w v0 (.slice a n c)) : obR w v0 (.slice a n' c') := by unfold obR at *; rwa [ob_len a n' c' n c]
theorem agOwn {N : Nat → Prop} {w0 w1 w2 : World} {v0 v1 : Value} {C : Nat → Prop} (G : Agr N w0 w1) (hN : ∀ k, ob v0 = some k → N k) (rel : obR w0 v0 v1) (a : Agr C w1 w2) (hC : ∀ k, k < w1.heap.size → C k → N k ∨ ob v1 = some k) : Agr N w0 w2 :=
  ⟨a.os.trans G.os, a.tape.trans G.tape, a.output.trans G.output, Nat.le_trans G.size a.size, fun k hk hn =>
    (a.block k (Nat.lt_of_lt_of_le hk G.size) (fun e => (hC k (Nat.lt_of_lt_of_le hk G.size) e).elim hn (fun e => by
      rcases rel with h | ⟨b, h1, h2⟩
      · exact hn (hN k (h ▸ e))
      · rw [h1] at e; cases e; omega))).trans (G.block k hk hn)⟩
/-- what the search's closure is handed -/
structure TrySt (l : List En) (la : Option Addr) (lc : Nat) (bo bl bt : Nat) (wE : World) (o : List Int) (m : Mo) (p : Ph) (M : Nat → Prop) (oa : Option Addr) (oc : Nat) (w : World) : Prop where
  S : Sub wE w
  hbl : Has w bl [.slice la l.length lc] 22
  hbt : Has w bt [.func (.func 17) #[] #[.pointer (some ⟨bo, 0, none⟩), .pointer (some ⟨bl, 0, none⟩), .pointer (some ⟨bt, 0, none⟩)]] 51
  hbo : Has w bo [.slice oa (o.map fun x => [i6 x]).length oc] 23
  ow : Ows wE.heap.size w 3 1 (.slice oa (o.map fun x => [i6 x]).length oc) (o.map fun x => [i6 x])
  hF : Ft M (fun u => MoR u p m) w
  d1 : ∀ k, ob (.slice oa (o.map fun x => [i6 x]).length oc) = some k → k ≠ bo
  d2 : ∀ k, ob (.slice oa (o.map fun x => [i6 x]).length oc) = some k → k ≠ bl
  d3 : ∀ k, ob (.slice oa (o.map fun x => [i6 x]).length oc) = some k → k ≠ bt
  d4 : ∀ k, M k → k ≠ bo
  d5 : ∀ k, ob (.slice oa (o.map fun x => [i6 x]).length oc) = some k → M k → False
  d7 : ∀ k, M k → k ≠ bl
  d8 : ∀ k, M k → k ≠ bt
/-- what it comes to -/
def TryEnd (l : List En) (bo bl bt : Nat) (wE w : World) (r : Option (List Int)) (o : List Int) (v0 : Value) (u : Value) (w' : World) : Prop :=
  ∃ oa' oc', u = .bool r.isSome ∧ Sub wE w' ∧ Has w' bo [.slice oa' ((r.getD o).map fun x => [i6 x]).length oc'] 23 ∧ Ows wE.heap.size w' 3 1 (.slice oa' ((r.getD o).map fun x => [i6 x]).length oc') ((r.getD o).map fun x => [i6 x]) ∧ Agr (fun k => k = bo ∨ ob v0 = some k) w w' ∧ obR w v0 (.slice oa' ((r.getD o).map fun x => [i6 x]).length oc')
set_option maxHeartbeats 2000000 in
theorem c_try (l : List En) (la : Option Addr) (lc : Nat) (bo bl bt : Nat) (wE : World) (hlE : Sl wE la 10 (l.map En.cells)) (hlen : l.length ≤ 1000) (hrt : rightH l) (n1 : bo ≠ bl) (n2 : bo ≠ bt) (n3 : bl ≠ bt) (g1 : wE.heap.size ≤ bo) (g2 : wE.heap.size ≤ bl) (g3 : wE.heap.size ≤ bt) :
    ∀ (k : Nat) (o : List Int) (m : Mo) (p : Ph) (M : Nat → Prop) (oa : Option Addr) (oc : Nat) (w : World), o.length + k = l.length → (∀ x ∈ o, 0 ≤ x ∧ x < l.length) → rightM m → MoS p m → TrySt l la lc bo bl bt wE o m p M oa oc w →
    FC Try.prog 17 [moV p m, .pointer (some ⟨bo, 0, none⟩), .pointer (some ⟨bl, 0, none⟩), .pointer (some ⟨bt, 0, none⟩)] w (TryEnd l bo bl bt wE w (tryM l k o m) o (.slice oa (o.map fun x => [i6 x]).length oc)) := by
  intro k
  induction k with
  | zero =>
    intro o m p M oa oc w hk hrg hR hs ⟨S, hbl, hbt, hbo, ow, hF, d1, d2, d3, d4, d5, d7, d8⟩
    have G : Agr (fun k => k = bo ∨ ob (.slice oa (o.map fun x => [i6 x]).length oc) = some k) w w := Agr.refl _ _
    refine FC.intro Try.func17 rfl Try.ntmps17 rfl ?_
    refine RC.seq ?_
    refine RC.region rfl ?_
    refine RL.box rfl rfl rfl (fun b_4 w_4 e_4 z_4 hb_4 s_4 => ?_)
    have ge_4 := S.le e_4
    have nl__4 := hbl.ne e_4
    have no__4 := hbo.ne e_4
    have d_ow_b_4 := ow.neNew e_4
    have S := S.trans s_4
    have hbl := hbl.sub s_4
    have hbo := hbo.sub s_4
    have ow := ow.sub s_4
    have geG_4 := agLe G e_4
    have G := G.trans s_4.agr
    have hb_4 : Has w_4 b_4 ([.slice p.a1 m.map.length p.c1, .slice p.a2 m.tab.length p.c2, .slice p.a3 m.row.length p.c3, .slice p.a4 m.heap.length p.c4]) _ := hb_4
    refine RL.ev (.assign rfl) rfl rfl ?_
    refine RL.nil (RC.back ?_)
    refine RC.seq ?_
    refine RC.seq ?_
    refine RC.region rfl ?_
    refine RL.ev (.load1 sh23 rfl (hbo.cell rfl)) rfl rfl ?_
    refine RL.ev (.len sl23 rfl) rfl rfl ?_
    refine RL.ev (.load1 sh22 rfl (hbl.cell rfl)) rfl rfl ?_
    refine RL.ev (.len sl22 rfl) rfl rfl ?_
    refine RL.ev (.as (v' := .bool true) (.bin rfl rfl rfl) (congrArg Value.bool (decide_eq_true (by rw [List.length_map]; omega)))) rfl rfl ?_
    refine RL.nil (RC.back ?_)
    refine RC.cond_t rfl ?_
    refine RC.seq ?_
    refine RC.region rfl ?_
    refine RL.ev (.assign rfl) rfl rfl ?_
    refine RL.nil (RC.back ?_)
    refine RC.done (rs := [.tmp 5]) (vs := [_]) rfl rfl ⟨rfl, trivial⟩ ?_
    -- end 1
    exact ⟨oa, oc, rfl, S, hbo, ow, G, .inl rfl⟩
  | succ k ih =>
    intro o m p M oa oc w hk hrg hR hs ⟨S, hbl, hbt, hbo, ow, hF, d1, d2, d3, d4, d5, d7, d8⟩
    have G : Agr (fun k => k = bo ∨ ob (.slice oa (o.map fun x => [i6 x]).length oc) = some k) w w := Agr.refl _ _
    have geo := g1
    have gel := g2
    have get := g3
    refine FC.intro Try.func17 rfl Try.ntmps17 rfl ?_
    refine RC.seq ?_
    refine RC.region rfl ?_
    refine RL.box rfl rfl rfl (fun b_4 w_4 e_4 z_4 hb_4 s_4 => ?_)
    have ge_4 := S.le e_4
    have nl__4 := hbl.ne e_4
    have nt__4 := hbt.ne e_4
    have no__4 := hbo.ne e_4
    have d_ow_b_4 := ow.neNew e_4
    have d_hF_b_4 := hF.neNew e_4
    have S := S.trans s_4
    have hbl := hbl.sub s_4
    have hbt := hbt.sub s_4
    have hbo := hbo.sub s_4
    have ow := ow.sub s_4
    have hF := hF.sub s_4
    have geG_4 := agLe G e_4
    have G := G.trans s_4.agr
    have hb_4 : Has w_4 b_4 ([.slice p.a1 m.map.length p.c1, .slice p.a2 m.tab.length p.c2, .slice p.a3 m.row.length p.c3, .slice p.a4 m.heap.length p.c4]) _ := hb_4
    have n4bo : ¬ b_4 = bo := fun e => by have := hbo.lt; omega
    refine RL.ev (.assign rfl) rfl rfl ?_
    refine RL.nil (RC.back ?_)
    refine RC.seq ?_
    refine RC.seq ?_
    refine RC.region rfl ?_
    refine RL.ev (.load1 sh23 rfl (hbo.cell rfl)) rfl rfl ?_
    refine RL.ev (.len sl23 rfl) rfl rfl ?_
    refine RL.ev (.load1 sh22 rfl (hbl.cell rfl)) rfl rfl ?_
    refine RL.ev (.len sl22 rfl) rfl rfl ?_
    refine RL.ev (.as (v' := .bool false) (.bin rfl rfl rfl) (congrArg Value.bool (decide_eq_false (fun e => by rw [List.length_map] at e; omega)))) rfl rfl ?_
    refine RL.nil (RC.back ?_)
    refine RC.cond_f rfl ?_
    refine RC.skip (RC.back ?_)
    refine RC.seq ?_
    refine RC.seq ?_
    refine RC.region rfl ?_
    refine RL.ev (.load1 sh22 rfl (hbl.cell rfl)) rfl rfl ?_
    refine RL.ev (.len sl22 rfl) rfl rfl ?_
    refine RL.ev (.move rfl) rfl rfl ?_
    refine RL.nil (RC.back ?_)
    refine RC.block ?_
    refine RC.loop (α := Nat × Option Addr × Nat) (fun x => [(1, .pointer (some ⟨bo, 0, none⟩)), (2, .pointer (some ⟨bl, 0, none⟩)), (3, .pointer (some ⟨bt, 0, none⟩)), (4, .pointer (some ⟨b_4, 0, none⟩)), (16, .slice la l.length lc), (17, .int .i64 (l.length : Int)), (18, .int .i64 (x.1 : Int))]) (fun x w1 => (x.1 ≤ l.length ∧ ∀ j, j < x.1 → tryS l (tryM l k) o m j = none) ∧ TrySt l la lc bo bl bt wE o m p M x.2.1 x.2.2 w1 ∧ Has w1 b_4 [.slice p.a1 m.map.length p.c1, .slice p.a2 m.tab.length p.c2, .slice p.a3 m.row.length p.c3, .slice p.a4 m.heap.length p.c4] 38 ∧ (∀ k, ob (.slice x.2.1 (o.map fun x => [i6 x]).length x.2.2) = some k → k ≠ b_4) ∧ Agr (fun k => k = bo ∨ ob (.slice oa (o.map fun x => [i6 x]).length oc) = some k) w w1 ∧ obR w (.slice oa (o.map fun x => [i6 x]).length oc) (.slice x.2.1 (o.map fun x => [i6 x]).length x.2.2)) (fun x => l.length - x.1) (0, oa, oc) (keep_of (by repeat (first | exact trivial | refine And.intro rfl ?_))) (⟨⟨Nat.zero_le _, fun j h => absurd h (Nat.not_lt_zero _)⟩, ⟨S, hbl, hbt, hbo, ow, hF, d1, d2, d3, d4, d5, d7, d8⟩, hb_4, d_ow_b_4, G, obR.refl _ _⟩) (fun x w1 hJ => ?_)
    obtain ⟨i, ob2, oc2⟩ := x; obtain ⟨⟨hi, hno⟩, ⟨S, hbl, hbt, hbo, ow, hF, d1, d2, d3, d4, d5, d7, d8⟩, hb_4, d6, G, hrel⟩ := hJ; simp only [] at hi hno hbo ow d1 d2 d3 d5 d6 hrel
    refine RC.seq ?_
    refine RC.region rfl ?_
    refine RL.ev (.bin rfl rfl rfl) rfl rfl ?_
    refine RL.nil (RC.back ?_)
    refine RC.seq ?_
    refine RC.cond_dec rfl (fun h2 => ?_) (fun h2 => ?_)
    ·
      obtain ⟨x, hx⟩ := getSome (l := l) (i := i) (by omega)
      have hxa := enAt_get hx
      have hxr : rightE x := hrt.1 x (List.mem_of_getElem? hx)
      have hol : o.length ≤ 1000 := (by omega)
      have hstep : tryS l (tryM l k) o m i = if pB ((i : Int) ∈ o ∨ lateM l o i) = true then none else if (ansM m x).2 = true then tryM l k (o ++ [(i : Int)]) (ansM m x).1 else none := (by unfold tryS; rw [hxa])
      refine RC.skip (RC.back ?_)
      refine RC.seq ?_
      refine RC.block ?_
      refine RC.seq ?_
      refine RC.region rfl ?_
      refine RL.ev (.move rfl) rfl rfl ?_
      refine RL.ev (.indexS sl22 rfl rfl (by omega) (hlE.is (i := 0) (by simp only [List.length_map, List.length_cons, List.length_nil]; omega))) rfl rfl ?_
      refine RL.ev (.loadR (x.cells) sh48 rfl ((hlE.sub S).rowAt (enc := En.cells) (i := i) hx) rfl) rfl rfl ?_
      refine RL.alloc ze3 rfl rfl (fun b_6 w_6 e_6 z_6 hb_6 s_6 => ?_)
      have ge_6 := S.le e_6
      have nl__6 := hbl.ne e_6
      have nt__6 := hbt.ne e_6
      have no__6 := hbo.ne e_6
      have n_4__6 := hb_4.ne e_6
      have d_ow_b_6 := ow.neNew e_6
      have d_hF_b_6 := hF.neNew e_6
      have S := S.trans s_6
      have hbl := hbl.sub s_6
      have hbt := hbt.sub s_6
      have hbo := hbo.sub s_6
      have ow := ow.sub s_6
      have hF := hF.sub s_6
      have geG_6 := agLe G e_6
      have G := G.trans s_6.agr
      have hb_4 := hb_4.sub s_6
      refine RL.alloc ze48 rfl rfl (fun b_7 w_7 e_7 z_7 hb_7 s_7 => ?_)
      have ge_7 := S.le e_7
      have nl__7 := hbl.ne e_7
      have nt__7 := hbt.ne e_7
      have no__7 := hbo.ne e_7
      have n_4__7 := hb_4.ne e_7
      have n_6__7 := hb_6.ne e_7
      have d_ow_b_7 := ow.neNew e_7
      have d_hF_b_7 := hF.neNew e_7
      have S := S.trans s_7
      have hbl := hbl.sub s_7
      have hbt := hbt.sub s_7
      have hbo := hbo.sub s_7
      have ow := ow.sub s_7
      have hF := hF.sub s_7
      have geG_7 := agLe G e_7
      have G := G.trans s_7.agr
      have hb_4 := hb_4.sub s_7
      have hb_6 := hb_6.sub s_7
      refine RL.store sh3 rfl rfl rfl hb_6 (by exact Nat.le_of_ble_eq_true rfl) (by rfl) rfl (fun w3 z3 hb_6 a3 => ?_)
      have S := S.upd a3 ge_6
      have hbl := hbl.upd a3 nl__6
      have hbt := hbt.upd a3 nt__6
      have hbo := hbo.upd a3 no__6
      have ow := ow.updD a3 d_ow_b_6
      have hF := hF.updD a3 d_hF_b_6
      have G := agNew G a3 geG_6
      have hb_4 := hb_4.upd a3 n_4__6
      have hb_7 := hb_7.upd a3 n_6__7.symm
      have hb_6 : Has w3 b_6 ([i6 (i : Int)]) _ := hb_6
      refine RL.store sh48 rfl rfl rfl hb_7 (by exact Nat.le_of_ble_eq_true rfl) (by rfl) rfl (fun w4 z4 hb_7 a4 => ?_)
      have S := S.upd a4 ge_7
      have hbl := hbl.upd a4 nl__7
      have hbt := hbt.upd a4 nt__7
      have hbo := hbo.upd a4 no__7
      have ow := ow.updD a4 d_ow_b_7
      have hF := hF.updD a4 d_hF_b_7
      have G := agNew G a4 geG_7
      have hb_4 := hb_4.upd a4 n_4__7
      have hb_6 := hb_6.upd a4 n_6__7
      have hb_7 : Has w4 b_7 (x.cells) _ := hb_7.now (by kernel_rfl)
      refine RL.nil (RC.back ?_)
      refine RC.seq ?_
      refine RC.region rfl ?_
      refine RL.ev (.func (xs := []) (ys := [_, _, _, _]) rfl rfl) rfl rfl ?_
      refine RL.ev (.assign rfl) rfl rfl ?_
      refine RL.nil (RC.back ?_)
      refine RC.seq ?_
      refine RC.seq ?_
      refine RC.region rfl ?_
      refine RL.ev (.load1 sh23 rfl (hbo.cell rfl)) rfl rfl ?_
      refine RL.ev (.load1 sh3 rfl (hb_6.cell rfl)) rfl rfl ?_
      refine RL.call rfl ok19 (c_containsI o ob2 oc2 _ (List.length_map _) (i : Int) w4 ow.sl.1 (by omega)) rfl rfl ?_
      rintro _ w5 ⟨rfl, s6⟩
      have S := S.trans s6
      have hbl := hbl.sub s6
      have hbt := hbt.sub s6
      have hbo := hbo.sub s6
      have ow := ow.sub s6
      have hF := hF.sub s6
      have G := G.trans s6.agr
      have hb_4 := hb_4.sub s6
      have hb_6 := hb_6.sub s6
      have hb_7 := hb_7.sub s6
      refine RL.ev (.move rfl) rfl rfl ?_
      refine RL.split 27 rfl (fun h7 => ?_) (fun h7 => ?_)
      ·
        have hn27 : tryS l (tryM l k) o m i = none := (by rw [hstep, pB_yes (.inl h7)]; rfl)
        refine RL.off rfl rfl ?_
        refine RL.off rfl rfl ?_
        refine RL.off rfl rfl ?_
        refine RL.off rfl rfl ?_
        refine RL.off rfl rfl ?_
        refine RL.ev (.pick_t rfl rfl) rfl rfl ?_
        refine RL.nil (RC.back ?_)
        refine RC.cond_t rfl ?_
        refine RC.exit rfl (RC.back ?_)
        refine RC.region rfl ?_
        refine RL.ev (.as (.bin rfl rfl rfl) (wi64 (y := ((i + 1 : Nat) : Int)) (by omega) (by omega))) rfl rfl ?_
        refine RL.ev (.move rfl) rfl rfl ?_
        exact RL.nil (fun a ka => ⟨(i + 1, ob2, oc2), ⟨⟨by omega, fun j hj => by rcases Nat.lt_or_eq_of_le (Nat.le_of_lt_succ hj) with q | q; exact hno j q; rw [q]; exact hn27⟩, ⟨S, hbl, hbt, hbo, ow, hF, d1, d2, d3, d4, d5, d7, d8⟩, hb_4, d6, G, hrel⟩, by omega, ka.keep (keep_of (by repeat (first | exact trivial | refine And.intro rfl ?_)))⟩)
      ·
        have g27 : ¬ (i : Int) ∈ o := h7
        refine RL.ev (.load1 sh22 rfl (hbl.cell rfl)) rfl rfl ?_
        refine RL.ev (.len sl22 rfl) rfl rfl ?_
        refine RL.call rfl ok22 (c_places l.length hlen w5) rfl rfl ?_
        rintro _ w8 ⟨a30, c30, rfl, hs30, s9⟩
        have S := S.trans s9
        have hbl := hbl.sub s9
        have hbt := hbt.sub s9
        have hbo := hbo.sub s9
        have ow := ow.sub s9
        have hF := hF.sub s9
        have G := G.trans s9.agr
        have hb_4 := hb_4.sub s9
        have hb_6 := hb_6.sub s9
        have hb_7 := hb_7.sub s9
        refine RL.ev (.move rfl) rfl rfl ?_
        refine RL.call rfl ok21 (c_containsFI 18 ok18 [.pointer (some ⟨b_6, 0, none⟩), .pointer (some ⟨bo, 0, none⟩), .pointer (some ⟨bl, 0, none⟩), .pointer (some ⟨b_7, 0, none⟩)] (lateB l o (i : Int) x) (natsI l.length) a30 c30 _ (natsI_len _).symm w8 (fun j hj w' s => by have q := mem_natsI.1 hj; have hbo' := hbo.sub s; rw [List.length_map] at hbo'; exact c_late l la lc o ob2 oc2 (i : Int) x b_6 bo bl b_7 j q hlen hol w' (hb_6.sub s) hbo' (hbl.sub s) (hb_7.sub s) ((hlE.sub S).sub s) (ow.sl.1.sub s)) hs30 (by rw [natsI_len]; omega)) rfl rfl ?_
        rintro _ w10 ⟨rfl, s11⟩
        have S := S.trans s11
        have hbl := hbl.sub s11
        have hbt := hbt.sub s11
        have hbo := hbo.sub s11
        have ow := ow.sub s11
        have hF := hF.sub s11
        have G := G.trans s11.agr
        have hb_4 := hb_4.sub s11
        have hb_6 := hb_6.sub s11
        have hb_7 := hb_7.sub s11
        refine RL.ev (.pick_f rfl rfl) rfl rfl ?_
        refine RL.nil (RC.back ?_)
        refine RC.cond rfl (fun h12 => ?_) (fun h12 => ?_)
        ·
          have hn33 : tryS l (tryM l k) o m i = none := (by rw [hstep, pB_yes (.inr ((late_iff hx).1 h12))]; rfl)
          refine RC.exit rfl (RC.back ?_)
          refine RC.region rfl ?_
          refine RL.ev (.as (.bin rfl rfl rfl) (wi64 (y := ((i + 1 : Nat) : Int)) (by omega) (by omega))) rfl rfl ?_
          refine RL.ev (.move rfl) rfl rfl ?_
          exact RL.nil (fun a ka => ⟨(i + 1, ob2, oc2), ⟨⟨by omega, fun j hj => by rcases Nat.lt_or_eq_of_le (Nat.le_of_lt_succ hj) with q | q; exact hno j q; rw [q]; exact hn33⟩, ⟨S, hbl, hbt, hbo, ow, hF, d1, d2, d3, d4, d5, d7, d8⟩, hb_4, d6, G, hrel⟩, by omega, ka.keep (keep_of (by repeat (first | exact trivial | refine And.intro rfl ?_)))⟩)
        ·
          have g33 : ¬ lateM l o i := (fun e => by rw [(late_iff hx).2 e] at h12; cases h12)
          rw [pB_no (fun e => e.elim g27 g33), if_neg (show ¬ (false = true) by simp)] at hstep
          refine RC.skip (RC.back ?_)
          refine RC.seq ?_
          refine RC.region rfl ?_
          refine RL.ev (.loadR ([.slice p.a1 m.map.length p.c1, .slice p.a2 m.tab.length p.c2, .slice p.a3 m.row.length p.c3, .slice p.a4 m.heap.length p.c4]) sh38 rfl hb_4.row rfl) rfl rfl ?_
          refine RL.ev (.loadR (x.cells) sh48 rfl hb_7.row rfl) rfl rfl ?_
          refine RL.call rfl ok23 (c_answers p m hs hR x hxr w10 M hF) rfl rfl ?_
          rintro _ w13 ⟨s14, p', M', r, rfl, hs', hF', hup, hr⟩
          have d_hF'_bl := upNe hup d7 hbl.lt
          have d_hF'_bt := upNe hup d8 hbt.lt
          have d_hF'_bo := upNe hup d4 hbo.lt
          have dd_ow_hF' := upDD hup d5 (fun k hk => (ow.ge k hk).2)
          have d_hF'_b_4 := upNe hup d_hF_b_4 hb_4.lt
          have d_hF'_b_6 := upNe hup d_hF_b_6 hb_6.lt
          have d_hF'_b_7 := upNe hup d_hF_b_7 hb_7.lt
          have d_ow_hF' := upDD hup d5 (fun k hk => (ow.ge k hk).2)
          have S := S.trans s14
          have hbl := hbl.sub s14
          have hbt := hbt.sub s14
          have hbo := hbo.sub s14
          have ow := ow.sub s14
          have hF := hF.sub s14
          have G := G.trans s14.agr
          have hb_4 := hb_4.sub s14
          have hb_6 := hb_6.sub s14
          have hb_7 := hb_7.sub s14
          refine RL.ev (.move rfl) rfl rfl ?_
          refine RL.ev (.extract rfl rfl) rfl rfl ?_
          refine RL.ev (.extract rfl rfl) rfl rfl ?_
          refine RL.alloc ze38 rfl rfl (fun b_9 w_9 e_9 z_9 hb_9 s_9 => ?_)
          have ge_9 := S.le e_9
          have nl__9 := hbl.ne e_9
          have nt__9 := hbt.ne e_9
          have no__9 := hbo.ne e_9
          have n_4__9 := hb_4.ne e_9
          have n_6__9 := hb_6.ne e_9
          have n_7__9 := hb_7.ne e_9
          have d_ow_b_9 := ow.neNew e_9
          have d_hF_b_9 := hF.neNew e_9
          have d_hF'_b_9 := hF'.neNew e_9
          have S := S.trans s_9
          have hbl := hbl.sub s_9
          have hbt := hbt.sub s_9
          have hbo := hbo.sub s_9
          have ow := ow.sub s_9
          have hF := hF.sub s_9
          have geG_9 := agLe G e_9
          have G := G.trans s_9.agr
          have hb_4 := hb_4.sub s_9
          have hb_6 := hb_6.sub s_9
          have hb_7 := hb_7.sub s_9
          have hF' := hF'.sub s_9
          refine RL.store sh38 rfl rfl rfl hb_9 (by exact Nat.le_of_ble_eq_true rfl) (by rfl) rfl (fun w15 z15 hb_9 a15 => ?_)
          have S := S.upd a15 ge_9
          have hbl := hbl.upd a15 nl__9
          have hbt := hbt.upd a15 nt__9
          have hbo := hbo.upd a15 no__9
          have ow := ow.updD a15 d_ow_b_9
          have hF := hF.updD a15 d_hF_b_9
          have G := agNew G a15 geG_9
          have hb_4 := hb_4.upd a15 n_4__9
          have hb_6 := hb_6.upd a15 n_6__9
          have hb_7 := hb_7.upd a15 n_7__9
          have hF' := hF'.updD a15 d_hF'_b_9
          have hb_9 : Has w15 b_9 ([.slice p'.a1 r.map.length p'.c1, .slice p'.a2 r.tab.length p'.c2, .slice p'.a3 r.row.length p'.c3, .slice p'.a4 r.heap.length p'.c4]) _ := hb_9.now (by kernel_rfl)
          refine RL.ev (.assign rfl) rfl rfl ?_
          refine RL.nil (RC.back ?_)
          refine RC.seq ?_
          refine RC.seq ?_
          refine RC.region rfl ?_
          refine RL.ev (.move rfl) rfl rfl ?_
          refine RL.ev (.not rfl) rfl rfl ?_
          refine RL.nil (RC.back ?_)
          refine RC.cond rfl (fun h16 => ?_) (fun h16 => ?_)
          ·
            have hn41 : tryS l (tryM l k) o m i = none := (by rw [hstep, if_neg (by have q := h16; rw [Bool.not_eq_true'] at q; rw [q]; simp)])
            refine RC.exit rfl (RC.back ?_)
            refine RC.region rfl ?_
            refine RL.ev (.as (.bin rfl rfl rfl) (wi64 (y := ((i + 1 : Nat) : Int)) (by omega) (by omega))) rfl rfl ?_
            refine RL.ev (.move rfl) rfl rfl ?_
            exact RL.nil (fun a ka => ⟨(i + 1, ob2, oc2), ⟨⟨by omega, fun j hj => by rcases Nat.lt_or_eq_of_le (Nat.le_of_lt_succ hj) with q | q; exact hno j q; rw [q]; exact hn41⟩, ⟨S, hbl, hbt, hbo, ow, hF, d1, d2, d3, d4, d5, d7, d8⟩, hb_4, d6, G, hrel⟩, by omega, ka.keep (keep_of (by repeat (first | exact trivial | refine And.intro rfl ?_)))⟩)
          ·
            have g41 : (ansM m x).2 = true := (by have q := h16; simpa using q)
            have hrr := hr g41
            have hRr : rightM r := (hrr ▸ ansM_right hR hxr)
            rw [if_pos g41, ← hrr] at hstep
            refine RC.skip (RC.back ?_)
            refine RC.seq ?_
            refine RC.region rfl ?_
            refine RL.ev (.load1 sh23 rfl (hbo.cell rfl)) rfl rfl ?_
            refine RL.ev (.load1 sh3 rfl (hb_6.cell rfl)) rfl rfl ?_
            refine RL.buildSlice1 sl23 _ ze3 rfl rfl rfl rfl rfl rfl rfl (fun b_44 w_44 e_44 z_44 hb_44 s_44 => ?_)
            have ge_44 := S.le e_44
            have nl__44 := hbl.ne e_44
            have nt__44 := hbt.ne e_44
            have no__44 := hbo.ne e_44
            have n_4__44 := hb_4.ne e_44
            have n_6__44 := hb_6.ne e_44
            have n_7__44 := hb_7.ne e_44
            have n_9__44 := hb_9.ne e_44
            have d_ow_b_44 := ow.neNew e_44
            have d_hF_b_44 := hF.neNew e_44
            have d_hF'_b_44 := hF'.neNew e_44
            have S := S.trans s_44
            have hbl := hbl.sub s_44
            have hbt := hbt.sub s_44
            have hbo := hbo.sub s_44
            have ow := ow.sub s_44
            have hF := hF.sub s_44
            have geG_44 := agLe G e_44
            have G := G.trans s_44.agr
            have hb_4 := hb_4.sub s_44
            have hb_6 := hb_6.sub s_44
            have hb_7 := hb_7.sub s_44
            have hF' := hF'.sub s_44
            have hb_9 := hb_9.sub s_44
            have sz_45 := S.size
            have ltbl_45 := hbl.lt
            have ltbt_45 := hbt.lt
            have ltbo_45 := hbo.lt
            have ltb_4_45 := hb_4.lt
            have ltb_6_45 := hb_6.lt
            have ltb_7_45 := hb_7.lt
            have ltb_9_45 := hb_9.lt
            have ltb_44_45 := hb_44.lt
            refine RL.append2 (base := wE.heap.size) (rows := o.map fun x => [i6 x]) (news := [_]) sl23 ze3 rfl rfl rfl rfl (.inl ow) (Has.slOne hb_44) rfl (by intro r hr; rw [List.mem_singleton] at hr; subst hr; rfl) rfl (by (try simp only [List.length_map, List.length_nil, List.length_append, List.length_cons]); omega) (by (try simp only [List.length_map, List.length_nil, List.length_append, List.length_cons]); omega) (by omega) rfl rfl (fun v_45 w_45 hc_45 ho_45 ag_45 ob_45 => ?_)
            have o45 := ho_45 (.inl (by simp))
            rw [show _ ++ [_] = ((o ++ [(i : Int)]).map fun x => [i6 x]) from by rw [List.map_append]; rfl] at o45
            have d_o45_bl := obNe ob_45 d2 hbl.lt
            have d_o45_bt := obNe ob_45 d3 hbt.lt
            have d_o45_bo := obNe ob_45 d1 hbo.lt
            have dd_o45_hF := obDF ob_45 d5 (fun k hk => (hF.ge k hk).2)
            have d_o45_b_4 := obNe ob_45 d6 hb_4.lt
            have d_o45_b_6 := obNe ob_45 d_ow_b_6 hb_6.lt
            have d_o45_b_7 := obNe ob_45 d_ow_b_7 hb_7.lt
            have dd_o45_hF' := obDF ob_45 d_ow_hF' (fun k hk => (hF'.ge k hk).2)
            have d_o45_b_9 := obNe ob_45 d_ow_b_9 hb_9.lt
            have S := S.agrN ag_45 (fun k e => Nat.le_trans (by omega) e.2)
            have hbl := hbl.step ag_45 (fun e => d2 _ e.1 rfl)
            have hbt := hbt.step ag_45 (fun e => d3 _ e.1 rfl)
            have hbo := hbo.step ag_45 (fun e => d1 _ e.1 rfl)
            have hF := hF.step ag_45 (fun k hk e => d5 k e.1 hk)
            have hb_4 := hb_4.step ag_45 (fun e => d6 _ e.1 rfl)
            have hb_6 := hb_6.step ag_45 (fun e => d_ow_b_6 _ e.1 rfl)
            have hb_7 := hb_7.step ag_45 (fun e => d_ow_b_7 _ e.1 rfl)
            have hF' := hF'.step ag_45 (fun k hk e => d_ow_hF' k e.1 hk)
            have hb_9 := hb_9.step ag_45 (fun e => d_ow_b_9 _ e.1 rfl)
            obtain ⟨a_45, c_45, rfl, k_45⟩ := o45.form
            have hsz45 := G.size
            have hrel45 := hrel.trans (show obR _ _ _ from ob_45) hsz45
            have G := agOwn G (fun k e => .inr e) hrel ag_45 (fun k _ e => .inr e.1)
            refine RL.store sh23 rfl rfl rfl hbo (by exact Nat.le_of_ble_eq_true rfl) (by rfl) rfl (fun w17 z17 hbo a17 => ?_)
            have S := S.upd a17 geo
            have hbl := hbl.upd a17 n1.symm
            have hbt := hbt.upd a17 n2.symm
            have hF := hF.updD a17 d4
            have hb_4 := hb_4.upd a17 no__4.symm
            have hb_6 := hb_6.upd a17 no__6.symm
            have hb_7 := hb_7.upd a17 no__7.symm
            have hF' := hF'.updD a17 d_hF'_bo
            have hb_9 := hb_9.upd a17 no__9.symm
            have o45 := o45.updD a17 d_o45_bo
            have G := G.trans (a17.mono fun k _ e => .inl e)
            refine RL.nil (RC.back ?_)
            refine RC.seq ?_
            refine RC.seq ?_
            refine RC.region rfl ?_
            refine RL.ev (.load1 sh51 rfl (hbt.cell rfl)) rfl rfl ?_
            skip
            refine RL.ev (.loadR ([.slice p'.a1 r.map.length p'.c1, .slice p'.a2 r.tab.length p'.c2, .slice p'.a3 r.row.length p'.c3, .slice p'.a4 r.heap.length p'.c4]) sh38 rfl hb_9.row rfl) rfl rfl ?_
            refine RL.callv rfl rfl (us := []) (cs := [.pointer (some ⟨bo, 0, none⟩), .pointer (some ⟨bl, 0, none⟩), .pointer (some ⟨bt, 0, none⟩)]) ok17 (ih (o ++ [(i : Int)]) r p' M' a_45 c_45 w17 (by rw [List.length_append, List.length_singleton]; omega) (fun z hz => by rcases List.mem_append.1 hz with hz | hz; exact hrg z hz; rw [List.mem_singleton] at hz; omega) hRr hs' ⟨S, hbl, hbt, hbo, o45, hF', d_o45_bo, d_o45_bl, d_o45_bt, d_hF'_bo, dd_o45_hF', d_hF'_bl, d_hF'_bt⟩) rfl rfl ?_
            rintro _ w18 ⟨oa3, oc3, rfl, S', hbo', ow3, a48, rel48⟩
            have d3bo := obNe rel48 d_o45_bo hbo.lt
            have d3bl := obNe rel48 d_o45_bl hbl.lt
            have d3bt := obNe rel48 d_o45_bt hbt.lt
            have d3b4 := obNe rel48 d_o45_b_4 hb_4.lt
            have d3F := obDF rel48 dd_o45_hF hF.lt
            have hrel3 := hrel45.trans rel48 G.size
            have G := agOwn G (fun k e => .inr e) hrel45 a48 (fun k _ e => e.elim (fun e => .inl (.inl e)) .inr)
            have hbl := hbl.step a48 (fun e => e.elim n1.symm (fun e => d_o45_bl _ e rfl))
            have hbt := hbt.step a48 (fun e => e.elim n2.symm (fun e => d_o45_bt _ e rfl))
            have hb_4 := hb_4.step a48 (fun e => e.elim (fun e => n4bo e) (fun e => d_o45_b_4 _ e rfl))
            have hF := hF.step a48 (fun k hk e => e.elim (d4 k hk) (fun e => dd_o45_hF k e hk))
            have S := S'
            have hbo := hbo'
            refine RL.nil (RC.back ?_)
            refine RC.cond rfl (fun h20 => ?_) (fun h20 => ?_)
            ·
              obtain ⟨rr, hsome⟩ := Option.isSome_iff_exists.1 h20
              rw [hsome] at hbo ow3 hrel3
              have hfin : tryM l (k + 1) o m = some rr := (by rw [tryM]; exact find_range (by omega) hno (by rw [hstep]; exact hsome))
              refine RC.seq ?_
              refine RC.region rfl ?_
              refine RL.ev (.assign rfl) rfl rfl ?_
              refine RL.nil (RC.back ?_)
              refine RC.done (rs := [.tmp 5]) (vs := [_]) rfl rfl ⟨rfl, trivial⟩ ?_
              -- end 1
              rw [hfin]
              exact ⟨oa3, oc3, rfl, S, hbo, ow3, G, hrel3⟩
            ·
              have hnone : tryM l k (o ++ [(i : Int)]) r = none := (by simpa using h20)
              have hn48 : tryS l (tryM l k) o m i = none := (by rw [hstep]; exact hnone)
              rw [hnone] at hbo ow3 hrel3 d3bo d3bl d3bt d3b4 d3F
              rw [show ((none : Option (List Int)).getD (o ++ [(i : Int)])) = o ++ [(i : Int)] from rfl] at hbo ow3 hrel3 d3bo d3bl d3bt d3b4 d3F
              rw [List.map_append, List.map_cons, List.map_nil] at ow3
              have ow4 := ow3.pop rfl
              have d3bo : ∀ k, ob (.slice oa3 (o.map fun x => [i6 x]).length oc3) = some k → k ≠ bo := fun k hk => d3bo k ((ob_len oa3 _ oc3 _ oc3).trans hk)
              have d3bl : ∀ k, ob (.slice oa3 (o.map fun x => [i6 x]).length oc3) = some k → k ≠ bl := fun k hk => d3bl k ((ob_len oa3 _ oc3 _ oc3).trans hk)
              have d3bt : ∀ k, ob (.slice oa3 (o.map fun x => [i6 x]).length oc3) = some k → k ≠ bt := fun k hk => d3bt k ((ob_len oa3 _ oc3 _ oc3).trans hk)
              have d3b4 : ∀ k, ob (.slice oa3 (o.map fun x => [i6 x]).length oc3) = some k → k ≠ b_4 := fun k hk => d3b4 k ((ob_len oa3 _ oc3 _ oc3).trans hk)
              have d3F : ∀ k, ob (.slice oa3 (o.map fun x => [i6 x]).length oc3) = some k → M k → False := fun k hk => d3F k ((ob_len oa3 _ oc3 _ oc3).trans hk)
              have hrel3 : obR w (.slice oa (o.map fun x => [i6 x]).length oc) (.slice oa3 (o.map fun x => [i6 x]).length oc3) := hrel3.len
              refine RC.skip (RC.back ?_)
              refine RC.region rfl ?_
              refine RL.ev (.load1 sh23 rfl (hbo.cell rfl)) rfl rfl ?_
              refine RL.ev (.load1 sh23 rfl (hbo.cell rfl)) rfl rfl ?_
              refine RL.ev (.len sl23 rfl) rfl rfl ?_
              refine RL.ev (.as (.bin rfl rfl rfl) (wi64 (y := (o.length : Int)) (by rw [List.length_map, List.length_append, List.length_singleton]; omega) (by omega))) rfl rfl ?_
              refine RL.ev (.as (v' := .slice oa3 (o.map fun x => [i6 x]).length oc3) (.sliceHi sl23 rfl rfl (by obtain ⟨_, _, e, hh⟩ := ow4.form; cases e; rw [List.length_map] at hh; omega)) (by rw [Int.toNat_natCast, List.length_map])) rfl rfl ?_
              refine RL.store sh23 rfl rfl rfl hbo (by exact Nat.le_of_ble_eq_true rfl) (by rfl) rfl (fun w21 z21 hbo a21 => ?_)
              have S := S.upd a21 geo
              have hbl := hbl.upd a21 n1.symm
              have hbt := hbt.upd a21 n2.symm
              have hF := hF.updD a21 d4
              have hb_4 := hb_4.upd a21 no__4.symm
              have G := G.trans (a21.mono fun k _ e => .inl e)
              have ow4 := ow4.updD a21 d3bo
              refine RL.nil (RC.back ?_)
              refine RC.region rfl ?_
              refine RL.ev (.as (.bin rfl rfl rfl) (wi64 (y := ((i + 1 : Nat) : Int)) (by omega) (by omega))) rfl rfl ?_
              refine RL.ev (.move rfl) rfl rfl ?_
              exact RL.nil (fun a ka => ⟨(i + 1, oa3, oc3), ⟨⟨by omega, fun j hj => by rcases Nat.lt_or_eq_of_le (Nat.le_of_lt_succ hj) with q | q; exact hno j q; rw [q]; exact hn48⟩, ⟨S, hbl, hbt, hbo, ow4, hF, d3bo, d3bl, d3bt, d4, d3F, d7, d8⟩, hb_4, d3b4, G, hrel3⟩, by omega, ka.keep (keep_of (by repeat (first | exact trivial | refine And.intro rfl ?_)))⟩)
    ·
      have hfin : tryM l (k + 1) o m = none := (by rw [tryM]; exact find_none (fun j hj => hno j (by omega)))
      refine RC.exit rfl (RC.back ?_)
      refine RC.seq ?_
      refine RC.region rfl ?_
      refine RL.ev (.assign rfl) rfl rfl ?_
      refine RL.nil (RC.back ?_)
      refine RC.done (rs := [.tmp 5]) (vs := [_]) rfl rfl ⟨rfl, trivial⟩ ?_
      -- end 2
      rw [hfin]
      exact ⟨ob2, oc2, rfl, S, hbo, ow, G, hrel⟩
end Go.Proofs.Ytlhnnleaiinjaaa
