/-
  The reference of the layer model: operations on keys with values.
-/
import Derived.Test.YtjafbffehmombaaModelRefV
import Derived.Test.YtjafbffehmombaaOrderLaws
import Derived.Test.YtjafbffehmombaaRefDel
set_option linter.unusedVariables false
set_option linter.unusedSimpArgs false
namespace Go.Proofs.Ytjafbffehmombaa
open Go Go.XL

theorem c_refPairs (l : List It) (a : Option Addr) (c m : Nat) (hm : m = l.length) (hs : Srt l) (hl200 : l.length ≤ 200) (hc : l.length ≤ c) (o : OpT) (hok : okP o) (w : World) (M : Nat → Prop) (hF : Ft M (fun u => Sl u a 2 (l.map It.cells)) w) :
    FC Try.prog 35 [.slice a m c, .agg o.cells.toArray] w (fun u w' => AnsR M w w' (pairsM l o) u) := by
  subst hm
  have hl := hF.now
  have hk := hok.1
  obtain ⟨n, hn⟩ : ∃ n, n = (ltL o.a l).length := ⟨_, rfl⟩
  obtain ⟨g0, g1, g2, g3⟩ := part_has hs hn
  obtain ⟨is, his⟩ : ∃ b, b = hasK l o.a := ⟨_, rfl⟩
  rw [← his] at g0
  have hdef : pairsM l o = if o.kind = 6 then (l, ⟨0, l.length, 0⟩)
    else if o.kind = 2 then
      if is = false ∧ (200 ≤ l.length ∨ o.box = 2 ∧ 9 ≤ crowdL l o.a) then (l, ⟨5, 0, 0⟩)
      else (putL l o.a o.b, if is then ⟨0, 1, (valAt l n).v⟩ else ⟨0, 0, 0⟩)
    else if o.kind = 4 then
      if (if is then n + 1 else n) = 0 then (l, ⟨3, 0, 0⟩)
      else (l, ⟨0, (valAt l ((if is then n + 1 else n) - 1)).k, (valAt l ((if is then n + 1 else n) - 1)).v⟩)
    else if o.kind = 5 then (l, ⟨0, n, 0⟩)
    else if is = false then (l, ⟨3, 0, 0⟩)
    else (if o.kind = 3 then delL l o.a else l, ⟨0, (valAt l n).v, 0⟩) := by rw [hn, his]; rfl
  have hkk : 1 ≤ o.kind ∧ o.kind ≤ 6 := ⟨hk.2.2.1, hk.2.2.2.1⟩
  have hpl := putR_putL (key := o.a) (v := o.b) hs
  refine FC.intro Try.func35 rfl Try.ntmps35 rfl ?_
  have S := Sub.refl w
  refine RC.seq ?_
  refine RC.region rfl ?_
  refine RL.box rfl rfl rfl (fun b_3 w_3 e_3 z_3 hb_3 s_3 => ?_)
  have ge_3 := S.le e_3
  have S := S.trans s_3
  have hb_3 : Has w_3 b_3 ([.int .i64 o.box, .int .i64 o.kind, .int .i64 o.a, .int .i64 o.b]) _ := hb_3
  refine RL.alloc ze65 rfl rfl (fun b_4 w_4 e_4 z_4 hb_4 s_4 => ?_)
  have ge_4 := S.le e_4
  have n_3__4 := hb_3.ne e_4
  have S := S.trans s_4
  have hb_3 := hb_3.sub s_4
  refine RL.nil (RC.back ?_)
  refine RC.seq ?_
  refine RC.region rfl ?_
  refine RL.ev (.move rfl) rfl rfl ?_
  refine RL.ev (.field0 fo34_2 rfl) rfl rfl ?_
  refine RL.ev (.load1 sh2 rfl (hb_3.cell rfl)) rfl rfl ?_
  refine RL.call rfl ok52 (c_refAt6 l a c _ rfl o.a w_4 (hl.sub S) (by omega)) rfl rfl ?_
  rintro _ w1 ⟨s2, at_, rfl, hat⟩
  have S := S.trans s2
  have hb_3 := hb_3.sub s2
  have hb_4 := hb_4.sub s2
  have hat2 : (at_ < 0 ∧ is = false) ∨ (at_ = (n : Int) ∧ is = true ∧ ∃ x, l[n]? = some x ∧ x.k = o.a) := (by rcases hat with ⟨q1, q2⟩ | ⟨q1, q2, y, q3, q4⟩; exact .inl ⟨q1, by rw [his]; exact q2⟩; have q5 : is = true := (by rw [his]; exact q2); obtain ⟨x, x1, x2⟩ := g0.1 q5; refine .inr ⟨?_, q5, x, x1, x2⟩; rcases Nat.lt_trichotomy n at_.toNat with q | q | q; (have := srt_get hs q x1 q3; omega); omega; (have := srt_get hs q q3 x1; omega))
  refine RL.ev (.assign rfl) rfl rfl ?_
  refine RL.nil (RC.back ?_)
  refine RC.seq ?_
  refine RC.region rfl ?_
  refine RL.ev (.move rfl) rfl rfl ?_
  refine RL.ev (.field0 fo34_2 rfl) rfl rfl ?_
  refine RL.ev (.load1 sh2 rfl (hb_3.cell rfl)) rfl rfl ?_
  refine RL.call rfl ok53 (c_refBelow l a c _ rfl o.a w1 (hl.sub S) (by omega)) rfl rfl ?_
  rintro _ w3 ⟨a16, c16, rfl, _, s4⟩
  have S := S.trans s4
  have hb_3 := hb_3.sub s4
  have hb_4 := hb_4.sub s4
  refine RL.ev (.as (v' := .int .i64 (n : Int)) (.len sl22 rfl) (by rw [List.length_map, hn]; rfl)) rfl rfl ?_
  refine RL.ev (.assign rfl) rfl rfl ?_
  refine RL.nil (RC.back ?_)
  refine RC.seq ?_
  refine RC.seq ?_
  refine RC.region rfl ?_
  refine RL.ev (.field0 fo34_1 rfl) rfl rfl ?_
  refine RL.ev (.load1 sh3 rfl (hb_3.cell rfl)) rfl rfl ?_
  refine RL.nil (RC.back ?_)
  refine RC.block ?_
  refine RC.seq ?_
  refine RC.region rfl ?_
  refine RL.ev (.bin rfl rfl rfl) rfl rfl ?_
  refine RL.ev (.assign rfl) rfl rfl ?_
  refine RL.nil (RC.back ?_)
  refine RC.cond_dec rfl (fun h5 => ?_) (fun h5 => ?_)
  ·
    have k6 := h5
    refine RC.seq ?_
    refine RC.region rfl ?_
    refine RL.ev (.move rfl) rfl rfl ?_
    refine RL.ev (.move rfl) rfl rfl ?_
    refine RL.ev (.len sl22 rfl) rfl rfl ?_
    refine RL.ev (.as (v' := .agg #[.int .i64 0, .int .i64 (l.length : Int), .int .i64 0]) (.buildS ze39 pl39 rfl rfl) (by kernel_rfl)) rfl rfl ?_
    refine RL.ev (.as (v' := .agg #[.slice a l.length c, .int .i64 0, .int .i64 (l.length : Int), .int .i64 0]) (.buildS ze65 pl65 rfl rfl) (by kernel_rfl)) rfl rfl ?_
    refine RL.store sh65 rfl rfl rfl hb_4 (by exact Nat.le_of_ble_eq_true rfl) (by rfl) rfl (fun w6 z6 hb_4 a6 => ?_)
    have S := S.upd a6 ge_4
    have hb_3 := hb_3.upd a6 n_3__4
    have hb_4 : Has w6 b_4 ([.slice a l.length c, .int .i64 0, .int .i64 (l.length : Int), .int .i64 0]) _ := hb_4.now (by kernel_rfl)
    refine RL.nil (RC.back ?_)
    refine RC.done (rs := [.cell 4 65]) (vs := [_]) rfl rfl ⟨⟨_, rfl, .inr ⟨[.slice a l.length c, .int .i64 0, .int .i64 (l.length : Int), .int .i64 0], sh65, hb_4.row, rfl⟩⟩, trivial⟩ ?_
    -- end 1
    have he : pairsM l o = (l, ⟨0, l.length, 0⟩) := (by rw [hdef, if_pos k6])
    rw [he]
    exact ⟨S, _, _, M, rfl, hc, hF.sub S, Up.refl _ _⟩
  ·
    have n6 := h5
    refine RC.seq ?_
    refine RC.region rfl ?_
    refine RL.ev (.bin rfl rfl rfl) rfl rfl ?_
    refine RL.ev (.assign rfl) rfl rfl ?_
    refine RL.nil (RC.back ?_)
    refine RC.cond_dec rfl (fun h7 => ?_) (fun h7 => ?_)
    ·
      have k2 := h7
      refine RC.seq ?_
      refine RC.seq ?_
      refine RC.region rfl ?_
      refine RL.ev (.move rfl) rfl rfl ?_
      refine RL.ev (.bin rfl rfl rfl) rfl rfl ?_
      refine RL.ev (.move rfl) rfl rfl ?_
      refine RL.split 31 rfl (fun h8 => ?_) (fun h8 => ?_)
      ·
        have q31 : at_ < 0 := h8
        have is0 : is = false := (hat2.resolve_right (fun q => by omega)).2
        refine RL.ev (.move rfl) rfl rfl ?_
        refine RL.ev (.len sl22 rfl) rfl rfl ?_
        refine RL.ev (.bin rfl rfl rfl) rfl rfl ?_
        refine RL.ev (.move rfl) rfl rfl ?_
        refine RL.split 35 rfl (fun h9 => ?_) (fun h9 => ?_)
        ·
          have g69 : 200 ≤ l.length := (by omega)
          refine RL.off rfl rfl ?_
          refine RL.off rfl rfl ?_
          refine RL.off rfl rfl ?_
          refine RL.off rfl rfl ?_
          refine RL.off rfl rfl ?_
          refine RL.off rfl rfl ?_
          refine RL.off rfl rfl ?_
          refine RL.off rfl rfl ?_
          refine RL.off rfl rfl ?_
          refine RL.off rfl rfl ?_
          refine RL.ev (.pick_t rfl rfl) rfl rfl ?_
          refine RL.ev (.pick_t rfl rfl) rfl rfl ?_
          refine RL.nil (RC.back ?_)
          refine RC.cond_t rfl ?_
          refine RC.seq ?_
          refine RC.region rfl ?_
          refine RL.ev (.move rfl) rfl rfl ?_
          refine RL.ev (.as (v' := .agg #[.int .i64 5, .int .i64 0, .int .i64 0]) (.buildS ze39 pl39 rfl rfl) (by kernel_rfl)) rfl rfl ?_
          refine RL.ev (.as (v' := .agg #[.slice a l.length c, .int .i64 5, .int .i64 0, .int .i64 0]) (.buildS ze65 pl65 rfl rfl) (by kernel_rfl)) rfl rfl ?_
          refine RL.store sh65 rfl rfl rfl hb_4 (by exact Nat.le_of_ble_eq_true rfl) (by rfl) rfl (fun w10 z10 hb_4 a10 => ?_)
          have S := S.upd a10 ge_4
          have hb_3 := hb_3.upd a10 n_3__4
          have hb_4 : Has w10 b_4 ([.slice a l.length c, .int .i64 5, .int .i64 0, .int .i64 0]) _ := hb_4.now (by kernel_rfl)
          refine RL.nil (RC.back ?_)
          refine RC.done (rs := [.cell 4 65]) (vs := [_]) rfl rfl ⟨⟨_, rfl, .inr ⟨[.slice a l.length c, .int .i64 5, .int .i64 0, .int .i64 0], sh65, hb_4.row, rfl⟩⟩, trivial⟩ ?_
          -- end 2
          have he : pairsM l o = (l, ⟨5, 0, 0⟩) := (by rw [hdef, if_neg n6, if_pos k2, if_pos ⟨is0, .inl g69⟩])
          rw [he]
          exact ⟨S, _, _, M, rfl, hc, hF.sub S, Up.refl _ _⟩
        ·
          have g69 : ¬ 200 ≤ l.length := (by omega)
          refine RL.ev (.field0 fo34_0 rfl) rfl rfl ?_
          refine RL.ev (.load1 sh3 rfl (hb_3.cell rfl)) rfl rfl ?_
          refine RL.ev (.bin rfl rfl rfl) rfl rfl ?_
          refine RL.ev (.move rfl) rfl rfl ?_
          refine RL.split 39 rfl (fun h11 => ?_) (fun h11 => ?_)
          ·
            have g73 : o.box = 2 := h11
            refine RL.ev (.move rfl) rfl rfl ?_
            refine RL.ev (.field0 fo34_2 rfl) rfl rfl ?_
            refine RL.ev (.load1 sh2 rfl (hb_3.cell rfl)) rfl rfl ?_
            refine RL.call rfl ok28 (c_refCrowd l a c _ rfl o.a w3 (hl.sub S) (by omega)) rfl rfl ?_
            rintro _ w12 ⟨rfl, s13⟩
            have S := S.trans s13
            have hb_3 := hb_3.sub s13
            have hb_4 := hb_4.sub s13
            refine RL.ev (.bin rfl rfl rfl) rfl rfl ?_
            refine RL.ev (.pick_t rfl rfl) rfl rfl ?_
            refine RL.ev (.pick_f rfl rfl) rfl rfl ?_
            refine RL.ev (.pick_t rfl rfl) rfl rfl ?_
            refine RL.nil (RC.back ?_)
            refine RC.cond_dec rfl (fun h14 => ?_) (fun h14 => ?_)
            ·
              have g80 : 9 ≤ crowdL l o.a := (by omega)
              refine RC.seq ?_
              refine RC.region rfl ?_
              refine RL.ev (.move rfl) rfl rfl ?_
              refine RL.ev (.as (v' := .agg #[.int .i64 5, .int .i64 0, .int .i64 0]) (.buildS ze39 pl39 rfl rfl) (by kernel_rfl)) rfl rfl ?_
              refine RL.ev (.as (v' := .agg #[.slice a l.length c, .int .i64 5, .int .i64 0, .int .i64 0]) (.buildS ze65 pl65 rfl rfl) (by kernel_rfl)) rfl rfl ?_
              refine RL.store sh65 rfl rfl rfl hb_4 (by exact Nat.le_of_ble_eq_true rfl) (by rfl) rfl (fun w15 z15 hb_4 a15 => ?_)
              have S := S.upd a15 ge_4
              have hb_3 := hb_3.upd a15 n_3__4
              have hb_4 : Has w15 b_4 ([.slice a l.length c, .int .i64 5, .int .i64 0, .int .i64 0]) _ := hb_4.now (by kernel_rfl)
              refine RL.nil (RC.back ?_)
              refine RC.done (rs := [.cell 4 65]) (vs := [_]) rfl rfl ⟨⟨_, rfl, .inr ⟨[.slice a l.length c, .int .i64 5, .int .i64 0, .int .i64 0], sh65, hb_4.row, rfl⟩⟩, trivial⟩ ?_
              -- end 3
              have he : pairsM l o = (l, ⟨5, 0, 0⟩) := (by rw [hdef, if_neg n6, if_pos k2, if_pos ⟨is0, .inr ⟨g73, g80⟩⟩])
              rw [he]
              exact ⟨S, _, _, M, rfl, hc, hF.sub S, Up.refl _ _⟩
            ·
              have g80 : ¬ 9 ≤ crowdL l o.a := (by omega)
              refine RC.skip (RC.back ?_)
              refine RC.seq ?_
              refine RC.region rfl ?_
              refine RL.ev (.as (v' := .agg #[.int .i64 0, .int .i64 0, .int .i64 0]) (.buildS ze39 pl39 rfl rfl) (by kernel_rfl)) rfl rfl ?_
              refine RL.alloc ze39 rfl rfl (fun b_7 w_7 e_7 z_7 hb_7 s_7 => ?_)
              have ge_7 := S.le e_7
              have n_3__7 := hb_3.ne e_7
              have n_4__7 := hb_4.ne e_7
              have S := S.trans s_7
              have hb_3 := hb_3.sub s_7
              have hb_4 := hb_4.sub s_7
              refine RL.store sh39 rfl rfl rfl hb_7 (by exact Nat.le_of_ble_eq_true rfl) (by rfl) rfl (fun w16 z16 hb_7 a16 => ?_)
              have S := S.upd a16 ge_7
              have hb_3 := hb_3.upd a16 n_3__7
              have hb_4 := hb_4.upd a16 n_4__7
              have hb_7 : Has w16 b_7 ([.int .i64 0, .int .i64 0, .int .i64 0]) _ := hb_7.now (by kernel_rfl)
              refine RL.nil (RC.back ?_)
              refine RC.cutx (α := Int × Int) (fun y_ => [(0, .slice a l.length c), (3, .pointer (some ⟨b_3, 0, none⟩)), (4, .pointer (some ⟨b_4, 0, none⟩)), (7, .pointer (some ⟨b_7, 0, none⟩))]) (fun y_ w17 => ((y_.1 = if is then 1 else 0) ∧ y_.2 = if is then (valAt l n).v else 0) ∧ Has w17 b_3 o.cells 34 ∧ Has w17 b_4 [.slice none 0 0, .int .i64 0, .int .i64 0, .int .i64 0] 65 ∧ Has w17 b_7 [.int .i64 0, .int .i64 y_.1, .int .i64 y_.2] 39 ∧ Sub w w17) ?_ (fun y_ w17 hJ => ?_)
              ·
                refine RC.seq ?_
                refine RC.region rfl ?_
                refine RL.ev (.move rfl) rfl rfl ?_
                refine RL.ev (.bin rfl rfl rfl) rfl rfl ?_
                refine RL.nil (RC.back ?_)
                refine RC.cond_dec rfl (fun h18 => ?_) (fun h18 => ?_)
                ·
                  obtain ⟨hatn, is1, x, hx, hxk⟩ := hat2.resolve_left (fun q => by omega)
                  subst hatn
                  have hnl := lt_of_get hx
                  have hva := valAt_get hx
                  refine RC.region rfl ?_
                  refine RL.ev (.move rfl) rfl rfl ?_
                  refine RL.ev (.move rfl) rfl rfl ?_
                  refine RL.ev (.indexS sl22 rfl rfl (by omega) (hl.is (i := 0) (by simp only [List.length_map, List.length_cons, List.length_nil]; omega))) rfl rfl ?_
                  refine RL.ev (.fieldA fo45_1 rfl) rfl rfl ?_
                  refine RL.ev (.load1 sh2 rfl ((hl.sub S).cell (enc := It.cells) (j := 1) hx rfl)) rfl rfl ?_
                  refine RL.ev (.as (v' := .agg #[.int .i64 0, .int .i64 1, .int .i64 x.v]) (.buildS ze39 pl39 rfl rfl) (by kernel_rfl)) rfl rfl ?_
                  refine RL.store sh39 rfl rfl rfl hb_7 (by exact Nat.le_of_ble_eq_true rfl) (by rfl) rfl (fun w19 z19 hb_7 a19 => ?_)
                  have S := S.upd a19 ge_7
                  have hb_3 := hb_3.upd a19 n_3__7
                  have hb_4 := hb_4.upd a19 n_4__7
                  have hb_7 : Has w19 b_7 ([.int .i64 0, .int .i64 1, .int .i64 x.v]) _ := hb_7.now (by kernel_rfl)
                  exact RL.nil (fun a ka => ⟨(1, x.v), ⟨⟨by rw [if_pos is1], by rw [if_pos is1, hva]⟩, hb_3, hb_4, hb_7, S⟩, ka.keep (keep_of (by repeat (first | exact trivial | refine And.intro rfl ?_)))⟩)
                ·
                  have q53 := h18
                  have is0 : is = false := (hat2.resolve_right (fun q => by omega)).2
                  exact RC.skip (fun a ka => ⟨(0, 0), ⟨⟨by rw [is0]; rfl, by rw [is0]; rfl⟩, hb_3, hb_4, hb_7, S⟩, ka.keep (keep_of (by repeat (first | exact trivial | refine And.intro rfl ?_)))⟩)
              obtain ⟨ra, rb⟩ := y_
              obtain ⟨⟨hra, hrb⟩, hb_3, hb_4, hb_7, S⟩ := hJ
              simp only [] at hra hrb hb_7
              refine RC.seq ?_
              refine RC.drawD (fun k => k = b_4) [8] w17.heap.size 9 rfl rfl mxo (fun w20 s21 => ?_)
              have hNN : ∀ k, ((k = b_4) ∨ w17.heap.size ≤ k) → w.heap.size ≤ k := fun k e => e.elim (fun e => e ▸ ge_4) (fun e => Nat.le_trans S.size e)
              have ent_S := S.size
              have hN0 : ∀ k, w17.heap.size ≤ k → w.heap.size ≤ k := fun k e => Nat.le_trans S.size e
              have ltD_b_3 := hb_3.lt
              have ltD_b_4 := hb_4.lt
              have ltD_b_7 := hb_7.lt
              have szD := Nat.le_refl w17.heap.size
              have S := S.trans s21
              have hb_3 := hb_3.sub s21
              have hb_4 := hb_4.sub s21
              have hb_7 := hb_7.sub s21
              have szD := Nat.le_trans szD s21.size
              refine RD.take 0 rfl (by kernel_rfl) (by kernel_rfl) (by kernel_rfl) (fun w' s' => .move rfl) rfl rfl ?_
              refine RD.take 1 rfl (by kernel_rfl) (by kernel_rfl) (by kernel_rfl) (fun w' s' => .field0 fo34_2 rfl) rfl rfl ?_
              refine RD.take 2 rfl (by kernel_rfl) (by kernel_rfl) (by kernel_rfl) (fun w' s' => .load1 sh2 rfl ((hb_3.step s' (fun e => e.elim (fun e => n_3__4 e) (fun e => Nat.not_le.2 ltD_b_3 e))).cell rfl)) rfl rfl ?_
              refine RD.take 3 rfl (by kernel_rfl) (by kernel_rfl) (by kernel_rfl) (fun w' s' => .field0 fo34_3 rfl) rfl rfl ?_
              refine RD.take 4 rfl (by kernel_rfl) (by kernel_rfl) (by kernel_rfl) (fun w' s' => .load1 sh2 rfl ((hb_3.step s' (fun e => e.elim (fun e => n_3__4 e) (fun e => Nat.not_le.2 ltD_b_3 e))).cell rfl)) rfl rfl ?_
              refine RD.take 6 rfl (by kernel_rfl) (by kernel_rfl) (by kernel_rfl) (fun w' s' => .loadR ([.int .i64 0, .int .i64 ra, .int .i64 rb]) sh39 rfl (hb_7.step s' (fun e => e.elim (fun e => n_4__7.symm e) (fun e => Nat.not_le.2 ltD_b_7 e))).row rfl) rfl rfl ?_
              refine RD.all [5] (by kernel_rfl) rfl (RDs.cons rfl ?_ (RDs.nil))
              refine RL.call rfl ok54 (c_refPut l a c _ rfl o.a o.b w20 (hl.sub S) (by omega)) rfl rfl ?_
              rintro vr w22 ⟨a7, c7, hvr, o7, s23⟩
              rw [hpl] at hvr o7
              subst hvr
              have lt4 := hb_4.lt
              have lt3 := hb_3.lt
              have lt7 := hb_7.lt
              have szS7 := S.size
              have S := S.trans s23
              have hb_3 := hb_3.sub s23
              have hb_4 := hb_4.sub s23
              have hb_7 := hb_7.sub s23
              have szD := Nat.le_trans szD s23.size
              have d74 : ∀ k, ob (.slice a7 ((putL l o.a o.b).map It.cells).length c7) = some k → k ≠ b_4 := (fun k hk e => by have := (o7.ge k hk).1; omega)
              have d73 : ∀ k, ob (.slice a7 ((putL l o.a o.b).map It.cells).length c7) = some k → k ≠ b_3 := (fun k hk e => by have := (o7.ge k hk).1; omega)
              have d77 : ∀ k, ob (.slice a7 ((putL l o.a o.b).map It.cells).length c7) = some k → k ≠ b_7 := (fun k hk e => by have := (o7.ge k hk).1; omega)
              refine RD.back s23.agr ?_
              refine RD.take 7 rfl (by kernel_rfl) (by kernel_rfl) (by kernel_rfl) (fun w' s' => .as (v' := .agg #[.slice a7 ((putL l o.a o.b).map It.cells).length c7, .int .i64 0, .int .i64 ra, .int .i64 rb]) (.buildS ze65 pl65 rfl rfl) (by kernel_rfl)) rfl rfl ?_
              refine RD.all [8] (by kernel_rfl) rfl (RDs.cons rfl ?_ (RDs.nil))
              refine RL.store sh65 rfl rfl rfl hb_4 (by exact Nat.le_of_ble_eq_true rfl) (by rfl) rfl (fun w24 z24 hb_4 a24 => ?_)
              have S := S.upd a24 ge_4
              have hb_3 := hb_3.upd a24 n_3__4
              have hb_7 := hb_7.upd a24 n_4__7.symm
              have szD := Nat.le_trans szD a24.size
              have o7 := o7.updD a24 d74
              have hb_4 : Has w24 b_4 ([.slice a7 ((putL l o.a o.b).map It.cells).length c7, .int .i64 0, .int .i64 ra, .int .i64 rb]) _ := hb_4.now (by kernel_rfl)
              refine RD.backW rfl (a24.mono fun k _ e => e ▸ (.inl (rfl))) ?_
              refine RD.done (by kernel_rfl) (RC.back ?_)
              refine RC.done (rs := [.cell 4 65]) (vs := [_]) rfl rfl ⟨⟨_, rfl, .inr ⟨[.slice a7 ((putL l o.a o.b).map It.cells).length c7, .int .i64 0, .int .i64 ra, .int .i64 rb], sh65, hb_4.row, rfl⟩⟩, trivial⟩ ?_
              -- end 4
              have he : pairsM l o = (putL l o.a o.b, ⟨0, ra, rb⟩) := (by rw [hdef, if_neg n6, if_pos k2, if_neg (fun h => by omega), hra, hrb]; cases is <;> rfl)
              rw [he]
              have q := o7.form
              obtain ⟨_, c9, e9, k9⟩ := q
              cases e9
              rw [List.length_map] at k9
              exact ⟨S, _, _, _, by rw [List.length_map]; rfl, k9, o7.ft.imp (fun u h => h.sl.1), fun k hk => .inr (Nat.le_trans szS7 (o7.ge k hk).1)⟩
          ·
            have g73 : ¬ o.box = 2 := h11
            refine RL.off rfl rfl ?_
            refine RL.off rfl rfl ?_
            refine RL.off rfl rfl ?_
            refine RL.off rfl rfl ?_
            refine RL.off rfl rfl ?_
            refine RL.ev (.pick_f rfl rfl) rfl rfl ?_
            refine RL.ev (.pick_f rfl rfl) rfl rfl ?_
            refine RL.ev (.pick_t rfl rfl) rfl rfl ?_
            refine RL.nil (RC.back ?_)
            refine RC.cond_f rfl ?_
            refine RC.skip (RC.back ?_)
            refine RC.seq ?_
            refine RC.region rfl ?_
            refine RL.ev (.as (v' := .agg #[.int .i64 0, .int .i64 0, .int .i64 0]) (.buildS ze39 pl39 rfl rfl) (by kernel_rfl)) rfl rfl ?_
            refine RL.alloc ze39 rfl rfl (fun b_7 w_7 e_7 z_7 hb_7 s_7 => ?_)
            have ge_7 := S.le e_7
            have n_3__7 := hb_3.ne e_7
            have n_4__7 := hb_4.ne e_7
            have S := S.trans s_7
            have hb_3 := hb_3.sub s_7
            have hb_4 := hb_4.sub s_7
            refine RL.store sh39 rfl rfl rfl hb_7 (by exact Nat.le_of_ble_eq_true rfl) (by rfl) rfl (fun w25 z25 hb_7 a25 => ?_)
            have S := S.upd a25 ge_7
            have hb_3 := hb_3.upd a25 n_3__7
            have hb_4 := hb_4.upd a25 n_4__7
            have hb_7 : Has w25 b_7 ([.int .i64 0, .int .i64 0, .int .i64 0]) _ := hb_7.now (by kernel_rfl)
            refine RL.nil (RC.back ?_)
            refine RC.cutx (α := Int × Int) (fun y_ => [(0, .slice a l.length c), (3, .pointer (some ⟨b_3, 0, none⟩)), (4, .pointer (some ⟨b_4, 0, none⟩)), (7, .pointer (some ⟨b_7, 0, none⟩))]) (fun y_ w26 => ((y_.1 = if is then 1 else 0) ∧ y_.2 = if is then (valAt l n).v else 0) ∧ Has w26 b_3 o.cells 34 ∧ Has w26 b_4 [.slice none 0 0, .int .i64 0, .int .i64 0, .int .i64 0] 65 ∧ Has w26 b_7 [.int .i64 0, .int .i64 y_.1, .int .i64 y_.2] 39 ∧ Sub w w26) ?_ (fun y_ w26 hJ => ?_)
            ·
              refine RC.seq ?_
              refine RC.region rfl ?_
              refine RL.ev (.move rfl) rfl rfl ?_
              refine RL.ev (.bin rfl rfl rfl) rfl rfl ?_
              refine RL.nil (RC.back ?_)
              refine RC.cond_dec rfl (fun h27 => ?_) (fun h27 => ?_)
              ·
                obtain ⟨hatn, is1, x, hx, hxk⟩ := hat2.resolve_left (fun q => by omega)
                subst hatn
                have hnl := lt_of_get hx
                have hva := valAt_get hx
                refine RC.region rfl ?_
                refine RL.ev (.move rfl) rfl rfl ?_
                refine RL.ev (.move rfl) rfl rfl ?_
                refine RL.ev (.indexS sl22 rfl rfl (by omega) (hl.is (i := 0) (by simp only [List.length_map, List.length_cons, List.length_nil]; omega))) rfl rfl ?_
                refine RL.ev (.fieldA fo45_1 rfl) rfl rfl ?_
                refine RL.ev (.load1 sh2 rfl ((hl.sub S).cell (enc := It.cells) (j := 1) hx rfl)) rfl rfl ?_
                refine RL.ev (.as (v' := .agg #[.int .i64 0, .int .i64 1, .int .i64 x.v]) (.buildS ze39 pl39 rfl rfl) (by kernel_rfl)) rfl rfl ?_
                refine RL.store sh39 rfl rfl rfl hb_7 (by exact Nat.le_of_ble_eq_true rfl) (by rfl) rfl (fun w28 z28 hb_7 a28 => ?_)
                have S := S.upd a28 ge_7
                have hb_3 := hb_3.upd a28 n_3__7
                have hb_4 := hb_4.upd a28 n_4__7
                have hb_7 : Has w28 b_7 ([.int .i64 0, .int .i64 1, .int .i64 x.v]) _ := hb_7.now (by kernel_rfl)
                exact RL.nil (fun a ka => ⟨(1, x.v), ⟨⟨by rw [if_pos is1], by rw [if_pos is1, hva]⟩, hb_3, hb_4, hb_7, S⟩, ka.keep (keep_of (by repeat (first | exact trivial | refine And.intro rfl ?_)))⟩)
              ·
                have q53 := h27
                have is0 : is = false := (hat2.resolve_right (fun q => by omega)).2
                exact RC.skip (fun a ka => ⟨(0, 0), ⟨⟨by rw [is0]; rfl, by rw [is0]; rfl⟩, hb_3, hb_4, hb_7, S⟩, ka.keep (keep_of (by repeat (first | exact trivial | refine And.intro rfl ?_)))⟩)
            obtain ⟨ra, rb⟩ := y_
            obtain ⟨⟨hra, hrb⟩, hb_3, hb_4, hb_7, S⟩ := hJ
            simp only [] at hra hrb hb_7
            refine RC.seq ?_
            refine RC.drawD (fun k => k = b_4) [8] w26.heap.size 9 rfl rfl mxo (fun w29 s30 => ?_)
            have hNN : ∀ k, ((k = b_4) ∨ w26.heap.size ≤ k) → w.heap.size ≤ k := fun k e => e.elim (fun e => e ▸ ge_4) (fun e => Nat.le_trans S.size e)
            have ent_S := S.size
            have hN0 : ∀ k, w26.heap.size ≤ k → w.heap.size ≤ k := fun k e => Nat.le_trans S.size e
            have ltD_b_3 := hb_3.lt
            have ltD_b_4 := hb_4.lt
            have ltD_b_7 := hb_7.lt
            have szD := Nat.le_refl w26.heap.size
            have S := S.trans s30
            have hb_3 := hb_3.sub s30
            have hb_4 := hb_4.sub s30
            have hb_7 := hb_7.sub s30
            have szD := Nat.le_trans szD s30.size
            refine RD.take 0 rfl (by kernel_rfl) (by kernel_rfl) (by kernel_rfl) (fun w' s' => .move rfl) rfl rfl ?_
            refine RD.take 1 rfl (by kernel_rfl) (by kernel_rfl) (by kernel_rfl) (fun w' s' => .field0 fo34_2 rfl) rfl rfl ?_
            refine RD.take 2 rfl (by kernel_rfl) (by kernel_rfl) (by kernel_rfl) (fun w' s' => .load1 sh2 rfl ((hb_3.step s' (fun e => e.elim (fun e => n_3__4 e) (fun e => Nat.not_le.2 ltD_b_3 e))).cell rfl)) rfl rfl ?_
            refine RD.take 3 rfl (by kernel_rfl) (by kernel_rfl) (by kernel_rfl) (fun w' s' => .field0 fo34_3 rfl) rfl rfl ?_
            refine RD.take 4 rfl (by kernel_rfl) (by kernel_rfl) (by kernel_rfl) (fun w' s' => .load1 sh2 rfl ((hb_3.step s' (fun e => e.elim (fun e => n_3__4 e) (fun e => Nat.not_le.2 ltD_b_3 e))).cell rfl)) rfl rfl ?_
            refine RD.take 6 rfl (by kernel_rfl) (by kernel_rfl) (by kernel_rfl) (fun w' s' => .loadR ([.int .i64 0, .int .i64 ra, .int .i64 rb]) sh39 rfl (hb_7.step s' (fun e => e.elim (fun e => n_4__7.symm e) (fun e => Nat.not_le.2 ltD_b_7 e))).row rfl) rfl rfl ?_
            refine RD.all [5] (by kernel_rfl) rfl (RDs.cons rfl ?_ (RDs.nil))
            refine RL.call rfl ok54 (c_refPut l a c _ rfl o.a o.b w29 (hl.sub S) (by omega)) rfl rfl ?_
            rintro vr w31 ⟨a7, c7, hvr, o7, s32⟩
            rw [hpl] at hvr o7
            subst hvr
            have lt4 := hb_4.lt
            have lt3 := hb_3.lt
            have lt7 := hb_7.lt
            have szS7 := S.size
            have S := S.trans s32
            have hb_3 := hb_3.sub s32
            have hb_4 := hb_4.sub s32
            have hb_7 := hb_7.sub s32
            have szD := Nat.le_trans szD s32.size
            have d74 : ∀ k, ob (.slice a7 ((putL l o.a o.b).map It.cells).length c7) = some k → k ≠ b_4 := (fun k hk e => by have := (o7.ge k hk).1; omega)
            have d73 : ∀ k, ob (.slice a7 ((putL l o.a o.b).map It.cells).length c7) = some k → k ≠ b_3 := (fun k hk e => by have := (o7.ge k hk).1; omega)
            have d77 : ∀ k, ob (.slice a7 ((putL l o.a o.b).map It.cells).length c7) = some k → k ≠ b_7 := (fun k hk e => by have := (o7.ge k hk).1; omega)
            refine RD.back s32.agr ?_
            refine RD.take 7 rfl (by kernel_rfl) (by kernel_rfl) (by kernel_rfl) (fun w' s' => .as (v' := .agg #[.slice a7 ((putL l o.a o.b).map It.cells).length c7, .int .i64 0, .int .i64 ra, .int .i64 rb]) (.buildS ze65 pl65 rfl rfl) (by kernel_rfl)) rfl rfl ?_
            refine RD.all [8] (by kernel_rfl) rfl (RDs.cons rfl ?_ (RDs.nil))
            refine RL.store sh65 rfl rfl rfl hb_4 (by exact Nat.le_of_ble_eq_true rfl) (by rfl) rfl (fun w33 z33 hb_4 a33 => ?_)
            have S := S.upd a33 ge_4
            have hb_3 := hb_3.upd a33 n_3__4
            have hb_7 := hb_7.upd a33 n_4__7.symm
            have szD := Nat.le_trans szD a33.size
            have o7 := o7.updD a33 d74
            have hb_4 : Has w33 b_4 ([.slice a7 ((putL l o.a o.b).map It.cells).length c7, .int .i64 0, .int .i64 ra, .int .i64 rb]) _ := hb_4.now (by kernel_rfl)
            refine RD.backW rfl (a33.mono fun k _ e => e ▸ (.inl (rfl))) ?_
            refine RD.done (by kernel_rfl) (RC.back ?_)
            refine RC.done (rs := [.cell 4 65]) (vs := [_]) rfl rfl ⟨⟨_, rfl, .inr ⟨[.slice a7 ((putL l o.a o.b).map It.cells).length c7, .int .i64 0, .int .i64 ra, .int .i64 rb], sh65, hb_4.row, rfl⟩⟩, trivial⟩ ?_
            -- end 5
            have he : pairsM l o = (putL l o.a o.b, ⟨0, ra, rb⟩) := (by rw [hdef, if_neg n6, if_pos k2, if_neg (fun h => by omega), hra, hrb]; cases is <;> rfl)
            rw [he]
            have q := o7.form
            obtain ⟨_, c9, e9, k9⟩ := q
            cases e9
            rw [List.length_map] at k9
            exact ⟨S, _, _, _, by rw [List.length_map]; rfl, k9, o7.ft.imp (fun u h => h.sl.1), fun k hk => .inr (Nat.le_trans szS7 (o7.ge k hk).1)⟩
      ·
        have q31 : ¬ at_ < 0 := h8
        have is1 : is = true := (hat2.resolve_left (fun q => by omega)).2.1
        refine RL.off rfl rfl ?_
        refine RL.off rfl rfl ?_
        refine RL.off rfl rfl ?_
        refine RL.off rfl rfl ?_
        refine RL.off rfl rfl ?_
        refine RL.off rfl rfl ?_
        refine RL.off rfl rfl ?_
        refine RL.off rfl rfl ?_
        refine RL.off rfl rfl ?_
        refine RL.off rfl rfl ?_
        refine RL.off rfl rfl ?_
        refine RL.off rfl rfl ?_
        refine RL.off rfl rfl ?_
        refine RL.off rfl rfl ?_
        refine RL.off rfl rfl ?_
        refine RL.ev (.pick_f rfl rfl) rfl rfl ?_
        refine RL.nil (RC.back ?_)
        refine RC.cond_f rfl ?_
        refine RC.skip (RC.back ?_)
        refine RC.seq ?_
        refine RC.region rfl ?_
        refine RL.ev (.as (v' := .agg #[.int .i64 0, .int .i64 0, .int .i64 0]) (.buildS ze39 pl39 rfl rfl) (by kernel_rfl)) rfl rfl ?_
        refine RL.alloc ze39 rfl rfl (fun b_7 w_7 e_7 z_7 hb_7 s_7 => ?_)
        have ge_7 := S.le e_7
        have n_3__7 := hb_3.ne e_7
        have n_4__7 := hb_4.ne e_7
        have S := S.trans s_7
        have hb_3 := hb_3.sub s_7
        have hb_4 := hb_4.sub s_7
        refine RL.store sh39 rfl rfl rfl hb_7 (by exact Nat.le_of_ble_eq_true rfl) (by rfl) rfl (fun w34 z34 hb_7 a34 => ?_)
        have S := S.upd a34 ge_7
        have hb_3 := hb_3.upd a34 n_3__7
        have hb_4 := hb_4.upd a34 n_4__7
        have hb_7 : Has w34 b_7 ([.int .i64 0, .int .i64 0, .int .i64 0]) _ := hb_7.now (by kernel_rfl)
        refine RL.nil (RC.back ?_)
        refine RC.cutx (α := Int × Int) (fun y_ => [(0, .slice a l.length c), (3, .pointer (some ⟨b_3, 0, none⟩)), (4, .pointer (some ⟨b_4, 0, none⟩)), (7, .pointer (some ⟨b_7, 0, none⟩))]) (fun y_ w35 => ((y_.1 = if is then 1 else 0) ∧ y_.2 = if is then (valAt l n).v else 0) ∧ Has w35 b_3 o.cells 34 ∧ Has w35 b_4 [.slice none 0 0, .int .i64 0, .int .i64 0, .int .i64 0] 65 ∧ Has w35 b_7 [.int .i64 0, .int .i64 y_.1, .int .i64 y_.2] 39 ∧ Sub w w35) ?_ (fun y_ w35 hJ => ?_)
        ·
          refine RC.seq ?_
          refine RC.region rfl ?_
          refine RL.ev (.move rfl) rfl rfl ?_
          refine RL.ev (.bin rfl rfl rfl) rfl rfl ?_
          refine RL.nil (RC.back ?_)
          refine RC.cond_dec rfl (fun h36 => ?_) (fun h36 => ?_)
          ·
            obtain ⟨hatn, is1, x, hx, hxk⟩ := hat2.resolve_left (fun q => by omega)
            subst hatn
            have hnl := lt_of_get hx
            have hva := valAt_get hx
            refine RC.region rfl ?_
            refine RL.ev (.move rfl) rfl rfl ?_
            refine RL.ev (.move rfl) rfl rfl ?_
            refine RL.ev (.indexS sl22 rfl rfl (by omega) (hl.is (i := 0) (by simp only [List.length_map, List.length_cons, List.length_nil]; omega))) rfl rfl ?_
            refine RL.ev (.fieldA fo45_1 rfl) rfl rfl ?_
            refine RL.ev (.load1 sh2 rfl ((hl.sub S).cell (enc := It.cells) (j := 1) hx rfl)) rfl rfl ?_
            refine RL.ev (.as (v' := .agg #[.int .i64 0, .int .i64 1, .int .i64 x.v]) (.buildS ze39 pl39 rfl rfl) (by kernel_rfl)) rfl rfl ?_
            refine RL.store sh39 rfl rfl rfl hb_7 (by exact Nat.le_of_ble_eq_true rfl) (by rfl) rfl (fun w37 z37 hb_7 a37 => ?_)
            have S := S.upd a37 ge_7
            have hb_3 := hb_3.upd a37 n_3__7
            have hb_4 := hb_4.upd a37 n_4__7
            have hb_7 : Has w37 b_7 ([.int .i64 0, .int .i64 1, .int .i64 x.v]) _ := hb_7.now (by kernel_rfl)
            exact RL.nil (fun a ka => ⟨(1, x.v), ⟨⟨by rw [if_pos is1], by rw [if_pos is1, hva]⟩, hb_3, hb_4, hb_7, S⟩, ka.keep (keep_of (by repeat (first | exact trivial | refine And.intro rfl ?_)))⟩)
          ·
            have q53 := h36
            have is0 : is = false := (hat2.resolve_right (fun q => by omega)).2
            exact RC.skip (fun a ka => ⟨(0, 0), ⟨⟨by rw [is0]; rfl, by rw [is0]; rfl⟩, hb_3, hb_4, hb_7, S⟩, ka.keep (keep_of (by repeat (first | exact trivial | refine And.intro rfl ?_)))⟩)
        obtain ⟨ra, rb⟩ := y_
        obtain ⟨⟨hra, hrb⟩, hb_3, hb_4, hb_7, S⟩ := hJ
        simp only [] at hra hrb hb_7
        refine RC.seq ?_
        refine RC.drawD (fun k => k = b_4) [8] w35.heap.size 9 rfl rfl mxo (fun w38 s39 => ?_)
        have hNN : ∀ k, ((k = b_4) ∨ w35.heap.size ≤ k) → w.heap.size ≤ k := fun k e => e.elim (fun e => e ▸ ge_4) (fun e => Nat.le_trans S.size e)
        have ent_S := S.size
        have hN0 : ∀ k, w35.heap.size ≤ k → w.heap.size ≤ k := fun k e => Nat.le_trans S.size e
        have ltD_b_3 := hb_3.lt
        have ltD_b_4 := hb_4.lt
        have ltD_b_7 := hb_7.lt
        have szD := Nat.le_refl w35.heap.size
        have S := S.trans s39
        have hb_3 := hb_3.sub s39
        have hb_4 := hb_4.sub s39
        have hb_7 := hb_7.sub s39
        have szD := Nat.le_trans szD s39.size
        refine RD.take 0 rfl (by kernel_rfl) (by kernel_rfl) (by kernel_rfl) (fun w' s' => .move rfl) rfl rfl ?_
        refine RD.take 1 rfl (by kernel_rfl) (by kernel_rfl) (by kernel_rfl) (fun w' s' => .field0 fo34_2 rfl) rfl rfl ?_
        refine RD.take 2 rfl (by kernel_rfl) (by kernel_rfl) (by kernel_rfl) (fun w' s' => .load1 sh2 rfl ((hb_3.step s' (fun e => e.elim (fun e => n_3__4 e) (fun e => Nat.not_le.2 ltD_b_3 e))).cell rfl)) rfl rfl ?_
        refine RD.take 3 rfl (by kernel_rfl) (by kernel_rfl) (by kernel_rfl) (fun w' s' => .field0 fo34_3 rfl) rfl rfl ?_
        refine RD.take 4 rfl (by kernel_rfl) (by kernel_rfl) (by kernel_rfl) (fun w' s' => .load1 sh2 rfl ((hb_3.step s' (fun e => e.elim (fun e => n_3__4 e) (fun e => Nat.not_le.2 ltD_b_3 e))).cell rfl)) rfl rfl ?_
        refine RD.take 6 rfl (by kernel_rfl) (by kernel_rfl) (by kernel_rfl) (fun w' s' => .loadR ([.int .i64 0, .int .i64 ra, .int .i64 rb]) sh39 rfl (hb_7.step s' (fun e => e.elim (fun e => n_4__7.symm e) (fun e => Nat.not_le.2 ltD_b_7 e))).row rfl) rfl rfl ?_
        refine RD.all [5] (by kernel_rfl) rfl (RDs.cons rfl ?_ (RDs.nil))
        refine RL.call rfl ok54 (c_refPut l a c _ rfl o.a o.b w38 (hl.sub S) (by omega)) rfl rfl ?_
        rintro vr w40 ⟨a7, c7, hvr, o7, s41⟩
        rw [hpl] at hvr o7
        subst hvr
        have lt4 := hb_4.lt
        have lt3 := hb_3.lt
        have lt7 := hb_7.lt
        have szS7 := S.size
        have S := S.trans s41
        have hb_3 := hb_3.sub s41
        have hb_4 := hb_4.sub s41
        have hb_7 := hb_7.sub s41
        have szD := Nat.le_trans szD s41.size
        have d74 : ∀ k, ob (.slice a7 ((putL l o.a o.b).map It.cells).length c7) = some k → k ≠ b_4 := (fun k hk e => by have := (o7.ge k hk).1; omega)
        have d73 : ∀ k, ob (.slice a7 ((putL l o.a o.b).map It.cells).length c7) = some k → k ≠ b_3 := (fun k hk e => by have := (o7.ge k hk).1; omega)
        have d77 : ∀ k, ob (.slice a7 ((putL l o.a o.b).map It.cells).length c7) = some k → k ≠ b_7 := (fun k hk e => by have := (o7.ge k hk).1; omega)
        refine RD.back s41.agr ?_
        refine RD.take 7 rfl (by kernel_rfl) (by kernel_rfl) (by kernel_rfl) (fun w' s' => .as (v' := .agg #[.slice a7 ((putL l o.a o.b).map It.cells).length c7, .int .i64 0, .int .i64 ra, .int .i64 rb]) (.buildS ze65 pl65 rfl rfl) (by kernel_rfl)) rfl rfl ?_
        refine RD.all [8] (by kernel_rfl) rfl (RDs.cons rfl ?_ (RDs.nil))
        refine RL.store sh65 rfl rfl rfl hb_4 (by exact Nat.le_of_ble_eq_true rfl) (by rfl) rfl (fun w42 z42 hb_4 a42 => ?_)
        have S := S.upd a42 ge_4
        have hb_3 := hb_3.upd a42 n_3__4
        have hb_7 := hb_7.upd a42 n_4__7.symm
        have szD := Nat.le_trans szD a42.size
        have o7 := o7.updD a42 d74
        have hb_4 : Has w42 b_4 ([.slice a7 ((putL l o.a o.b).map It.cells).length c7, .int .i64 0, .int .i64 ra, .int .i64 rb]) _ := hb_4.now (by kernel_rfl)
        refine RD.backW rfl (a42.mono fun k _ e => e ▸ (.inl (rfl))) ?_
        refine RD.done (by kernel_rfl) (RC.back ?_)
        refine RC.done (rs := [.cell 4 65]) (vs := [_]) rfl rfl ⟨⟨_, rfl, .inr ⟨[.slice a7 ((putL l o.a o.b).map It.cells).length c7, .int .i64 0, .int .i64 ra, .int .i64 rb], sh65, hb_4.row, rfl⟩⟩, trivial⟩ ?_
        -- end 6
        have he : pairsM l o = (putL l o.a o.b, ⟨0, ra, rb⟩) := (by rw [hdef, if_neg n6, if_pos k2, if_neg (fun h => by rw [is1] at h; cases h.1), hra, hrb]; cases is <;> rfl)
        rw [he]
        have q := o7.form
        obtain ⟨_, c9, e9, k9⟩ := q
        cases e9
        rw [List.length_map] at k9
        exact ⟨S, _, _, _, by rw [List.length_map]; rfl, k9, o7.ft.imp (fun u h => h.sl.1), fun k hk => .inr (Nat.le_trans szS7 (o7.ge k hk).1)⟩
    ·
      have n2 := h7
      refine RC.seq ?_
      refine RC.region rfl ?_
      refine RL.ev (.bin rfl rfl rfl) rfl rfl ?_
      refine RL.ev (.assign rfl) rfl rfl ?_
      refine RL.nil (RC.back ?_)
      refine RC.cond_dec rfl (fun h43 => ?_) (fun h43 => ?_)
      ·
        have k4 := h43
        refine RC.cutx (α := Nat) (fun y_ => [(0, .slice a l.length c), (3, .pointer (some ⟨b_3, 0, none⟩)), (4, .pointer (some ⟨b_4, 0, none⟩)), (6, .int .i64 (y_ : Int))]) (fun y_ w44 => (y_ = (if is then n + 1 else n) ∧ y_ ≤ l.length) ∧ Has w44 b_4 [.slice none 0 0, .int .i64 0, .int .i64 0, .int .i64 0] 65 ∧ Sub w w44) ?_ (fun y_ w44 hJ => ?_)
        ·
          refine RC.seq ?_
          refine RC.region rfl ?_
          refine RL.ev (.move rfl) rfl rfl ?_
          refine RL.ev (.bin rfl rfl rfl) rfl rfl ?_
          refine RL.nil (RC.back ?_)
          refine RC.cond_dec rfl (fun h45 => ?_) (fun h45 => ?_)
          ·
            have is1 : is = true := (hat2.resolve_left (fun q => by omega)).2.1
            obtain ⟨x, hx, hxk⟩ := g0.1 is1
            have hnl := lt_of_get hx
            refine RC.region rfl ?_
            refine RL.ev (.move rfl) rfl rfl ?_
            refine RL.ev (.as (.bin rfl rfl rfl) (wi64 (y := ((n + 1 : Nat) : Int)) (by omega) (by omega))) rfl rfl ?_
            refine RL.ev (.assign rfl) rfl rfl ?_
            exact RL.nil (fun a ka => ⟨n + 1, ⟨⟨by rw [is1]; rfl, by omega⟩, hb_4, S⟩, ka.keep (keep_of (by repeat (first | exact trivial | refine And.intro rfl ?_)))⟩)
          ·
            have is0 : is = false := (hat2.resolve_right (fun q => by omega)).2
            exact RC.skip (fun a ka => ⟨n, ⟨⟨by rw [is0]; rfl, g3⟩, hb_4, S⟩, ka.keep (keep_of (by repeat (first | exact trivial | refine And.intro rfl ?_)))⟩)
        obtain ⟨⟨hyk, hyl⟩, hb_4, S⟩ := hJ
        refine RC.seq ?_
        refine RC.seq ?_
        refine RC.region rfl ?_
        refine RL.ev (.move rfl) rfl rfl ?_
        refine RL.ev (.bin rfl rfl rfl) rfl rfl ?_
        refine RL.nil (RC.back ?_)
        refine RC.cond_dec rfl (fun h46 => ?_) (fun h46 => ?_)
        ·
          have g96 : y_ = 0 := (by omega)
          refine RC.seq ?_
          refine RC.region rfl ?_
          refine RL.ev (.move rfl) rfl rfl ?_
          refine RL.ev (.as (v' := .agg #[.int .i64 3, .int .i64 0, .int .i64 0]) (.buildS ze39 pl39 rfl rfl) (by kernel_rfl)) rfl rfl ?_
          refine RL.ev (.as (v' := .agg #[.slice a l.length c, .int .i64 3, .int .i64 0, .int .i64 0]) (.buildS ze65 pl65 rfl rfl) (by kernel_rfl)) rfl rfl ?_
          refine RL.store sh65 rfl rfl rfl hb_4 (by exact Nat.le_of_ble_eq_true rfl) (by rfl) rfl (fun w47 z47 hb_4 a47 => ?_)
          have S := S.upd a47 ge_4
          have hb_4 : Has w47 b_4 ([.slice a l.length c, .int .i64 3, .int .i64 0, .int .i64 0]) _ := hb_4.now (by kernel_rfl)
          refine RL.nil (RC.back ?_)
          refine RC.done (rs := [.cell 4 65]) (vs := [_]) rfl rfl ⟨⟨_, rfl, .inr ⟨[.slice a l.length c, .int .i64 3, .int .i64 0, .int .i64 0], sh65, hb_4.row, rfl⟩⟩, trivial⟩ ?_
          -- end 7
          have he : pairsM l o = (l, ⟨3, 0, 0⟩) := (by rw [hdef, if_neg n6, if_neg n2, if_pos k4, if_pos (by rw [← hyk]; exact g96)])
          rw [he]
          exact ⟨S, _, _, M, rfl, hc, hF.sub S, Up.refl _ _⟩
        ·
          have g96 : 0 < y_ := (by omega)
          obtain ⟨y, hy⟩ := getSome (l := l) (i := y_ - 1) (by omega)
          have hva := valAt_get hy
          refine RC.skip (RC.back ?_)
          refine RC.seq ?_
          refine RC.drawD (fun k => k = b_4) [15] w44.heap.size 16 rfl rfl mxo (fun w48 s49 => ?_)
          have hNN : ∀ k, ((k = b_4) ∨ w44.heap.size ≤ k) → w.heap.size ≤ k := fun k e => e.elim (fun e => e ▸ ge_4) (fun e => Nat.le_trans S.size e)
          have ent_S := S.size
          have hN0 : ∀ k, w44.heap.size ≤ k → w.heap.size ≤ k := fun k e => Nat.le_trans S.size e
          have ltD_b_4 := hb_4.lt
          have szD := Nat.le_refl w44.heap.size
          have S := S.trans s49
          have hb_4 := hb_4.sub s49
          have szD := Nat.le_trans szD s49.size
          refine RD.take 0 rfl (by kernel_rfl) (by kernel_rfl) (by kernel_rfl) (fun w' s' => .move rfl) rfl rfl ?_
          refine RD.take 1 rfl (by kernel_rfl) (by kernel_rfl) (by kernel_rfl) (fun w' s' => .move rfl) rfl rfl ?_
          refine RD.take 2 rfl (by kernel_rfl) (by kernel_rfl) (by kernel_rfl) (fun w' s' => .move rfl) rfl rfl ?_
          refine RD.take 3 rfl (by kernel_rfl) (by kernel_rfl) (by kernel_rfl) (fun w' s' => .as (.bin rfl rfl rfl) (wi64 (y := ((y_ - 1 : Nat) : Int)) (by omega) (by omega))) rfl rfl ?_
          refine RD.take 4 rfl (by kernel_rfl) (by kernel_rfl) (by kernel_rfl) (fun w' s' => .indexS sl22 rfl rfl (by omega) (hl.is (i := 0) (by simp only [List.length_map, List.length_cons, List.length_nil]; omega))) rfl rfl ?_
          refine RD.take 5 rfl (by kernel_rfl) (by kernel_rfl) (by kernel_rfl) (fun w' s' => .fieldA fo45_0 rfl) rfl rfl ?_
          refine RD.take 6 rfl (by kernel_rfl) (by kernel_rfl) (by kernel_rfl) (fun w' s' => .load1 sh2 rfl ((hl.sub (S.agrN s' hNN)).cell (enc := It.cells) (i := y_ - 1) (j := 0) hy rfl)) rfl rfl ?_
          refine RD.take 7 rfl (by kernel_rfl) (by kernel_rfl) (by kernel_rfl) (fun w' s' => .move rfl) rfl rfl ?_
          refine RD.take 8 rfl (by kernel_rfl) (by kernel_rfl) (by kernel_rfl) (fun w' s' => .move rfl) rfl rfl ?_
          refine RD.take 9 rfl (by kernel_rfl) (by kernel_rfl) (by kernel_rfl) (fun w' s' => .as (.bin rfl rfl rfl) (wi64 (y := ((y_ - 1 : Nat) : Int)) (by omega) (by omega))) rfl rfl ?_
          refine RD.take 10 rfl (by kernel_rfl) (by kernel_rfl) (by kernel_rfl) (fun w' s' => .indexS sl22 rfl rfl (by omega) (hl.is (i := 0) (by simp only [List.length_map, List.length_cons, List.length_nil]; omega))) rfl rfl ?_
          refine RD.take 11 rfl (by kernel_rfl) (by kernel_rfl) (by kernel_rfl) (fun w' s' => .fieldA fo45_1 rfl) rfl rfl ?_
          refine RD.take 12 rfl (by kernel_rfl) (by kernel_rfl) (by kernel_rfl) (fun w' s' => .load1 sh2 rfl ((hl.sub (S.agrN s' hNN)).cell (enc := It.cells) (i := y_ - 1) (j := 1) hy rfl)) rfl rfl ?_
          refine RD.take 13 rfl (by kernel_rfl) (by kernel_rfl) (by kernel_rfl) (fun w' s' => .as (v' := .agg #[.int .i64 0, .int .i64 y.k, .int .i64 y.v]) (.buildS ze39 pl39 rfl rfl) (by kernel_rfl)) rfl rfl ?_
          refine RD.take 14 rfl (by kernel_rfl) (by kernel_rfl) (by kernel_rfl) (fun w' s' => .as (v' := .agg #[.slice a l.length c, .int .i64 0, .int .i64 y.k, .int .i64 y.v]) (.buildS ze65 pl65 rfl rfl) (by kernel_rfl)) rfl rfl ?_
          refine RD.all [15] (by kernel_rfl) rfl (RDs.cons rfl ?_ (RDs.nil))
          refine RL.store sh65 rfl rfl rfl hb_4 (by exact Nat.le_of_ble_eq_true rfl) (by rfl) rfl (fun w50 z50 hb_4 a50 => ?_)
          have S := S.upd a50 ge_4
          have szD := Nat.le_trans szD a50.size
          have hb_4 : Has w50 b_4 ([.slice a l.length c, .int .i64 0, .int .i64 y.k, .int .i64 y.v]) _ := hb_4.now (by kernel_rfl)
          refine RD.backW rfl (a50.mono fun k _ e => e ▸ (.inl (rfl))) ?_
          refine RD.done (by kernel_rfl) (RC.back ?_)
          refine RC.done (rs := [.cell 4 65]) (vs := [_]) rfl rfl ⟨⟨_, rfl, .inr ⟨[.slice a l.length c, .int .i64 0, .int .i64 y.k, .int .i64 y.v], sh65, hb_4.row, rfl⟩⟩, trivial⟩ ?_
          -- end 8
          have he : pairsM l o = (l, ⟨0, y.k, y.v⟩) := (by rw [hdef, if_neg n6, if_neg n2, if_pos k4, if_neg (by rw [← hyk]; omega), ← hyk, hva])
          rw [he]
          exact ⟨S, _, _, M, rfl, hc, hF.sub S, Up.refl _ _⟩
      ·
        have n4 := h43
        refine RC.seq ?_
        refine RC.region rfl ?_
        refine RL.ev (.bin rfl rfl rfl) rfl rfl ?_
        refine RL.ev (.assign rfl) rfl rfl ?_
        refine RL.nil (RC.back ?_)
        refine RC.cond_dec rfl (fun h51 => ?_) (fun h51 => ?_)
        ·
          have k5 := h51
          refine RC.seq ?_
          refine RC.region rfl ?_
          refine RL.ev (.move rfl) rfl rfl ?_
          refine RL.ev (.move rfl) rfl rfl ?_
          refine RL.ev (.as (v' := .agg #[.int .i64 0, .int .i64 (n : Int), .int .i64 0]) (.buildS ze39 pl39 rfl rfl) (by kernel_rfl)) rfl rfl ?_
          refine RL.ev (.as (v' := .agg #[.slice a l.length c, .int .i64 0, .int .i64 (n : Int), .int .i64 0]) (.buildS ze65 pl65 rfl rfl) (by kernel_rfl)) rfl rfl ?_
          refine RL.store sh65 rfl rfl rfl hb_4 (by exact Nat.le_of_ble_eq_true rfl) (by rfl) rfl (fun w52 z52 hb_4 a52 => ?_)
          have S := S.upd a52 ge_4
          have hb_3 := hb_3.upd a52 n_3__4
          have hb_4 : Has w52 b_4 ([.slice a l.length c, .int .i64 0, .int .i64 (n : Int), .int .i64 0]) _ := hb_4.now (by kernel_rfl)
          refine RL.nil (RC.back ?_)
          refine RC.done (rs := [.cell 4 65]) (vs := [_]) rfl rfl ⟨⟨_, rfl, .inr ⟨[.slice a l.length c, .int .i64 0, .int .i64 (n : Int), .int .i64 0], sh65, hb_4.row, rfl⟩⟩, trivial⟩ ?_
          -- end 9
          have he : pairsM l o = (l, ⟨0, (n : Int), 0⟩) := (by rw [hdef, if_neg n6, if_neg n2, if_neg n4, if_pos k5])
          rw [he]
          exact ⟨S, _, _, M, rfl, hc, hF.sub S, Up.refl _ _⟩
        ·
          have n5 := h51
          refine RC.skip (RC.back ?_)
          refine RC.seq ?_
          refine RC.seq ?_
          refine RC.region rfl ?_
          refine RL.ev (.move rfl) rfl rfl ?_
          refine RL.ev (.bin rfl rfl rfl) rfl rfl ?_
          refine RL.nil (RC.back ?_)
          refine RC.cond_dec rfl (fun h53 => ?_) (fun h53 => ?_)
          ·
            have is0 : is = false := (hat2.resolve_right (fun q => by omega)).2
            refine RC.seq ?_
            refine RC.region rfl ?_
            refine RL.ev (.move rfl) rfl rfl ?_
            refine RL.ev (.as (v' := .agg #[.int .i64 3, .int .i64 0, .int .i64 0]) (.buildS ze39 pl39 rfl rfl) (by kernel_rfl)) rfl rfl ?_
            refine RL.ev (.as (v' := .agg #[.slice a l.length c, .int .i64 3, .int .i64 0, .int .i64 0]) (.buildS ze65 pl65 rfl rfl) (by kernel_rfl)) rfl rfl ?_
            refine RL.store sh65 rfl rfl rfl hb_4 (by exact Nat.le_of_ble_eq_true rfl) (by rfl) rfl (fun w54 z54 hb_4 a54 => ?_)
            have S := S.upd a54 ge_4
            have hb_3 := hb_3.upd a54 n_3__4
            have hb_4 : Has w54 b_4 ([.slice a l.length c, .int .i64 3, .int .i64 0, .int .i64 0]) _ := hb_4.now (by kernel_rfl)
            refine RL.nil (RC.back ?_)
            refine RC.done (rs := [.cell 4 65]) (vs := [_]) rfl rfl ⟨⟨_, rfl, .inr ⟨[.slice a l.length c, .int .i64 3, .int .i64 0, .int .i64 0], sh65, hb_4.row, rfl⟩⟩, trivial⟩ ?_
            -- end 10
            have he : pairsM l o = (l, ⟨3, 0, 0⟩) := (by rw [hdef, if_neg (by omega), if_neg (by omega), if_neg (by omega), if_neg (by omega), if_pos is0])
            rw [he]
            exact ⟨S, _, _, M, rfl, hc, hF.sub S, Up.refl _ _⟩
          ·
            obtain ⟨hatn, is1, x, hx, hxk⟩ := hat2.resolve_left (fun q => by omega)
            subst hatn
            have hnl := lt_of_get hx
            have hva := valAt_get hx
            refine RC.skip (RC.back ?_)
            refine RC.seq ?_
            refine RC.region rfl ?_
            refine RL.ev (.move rfl) rfl rfl ?_
            refine RL.ev (.move rfl) rfl rfl ?_
            refine RL.ev (.indexS sl22 rfl rfl (by omega) (hl.is (i := 0) (by simp only [List.length_map, List.length_cons, List.length_nil]; omega))) rfl rfl ?_
            refine RL.ev (.fieldA fo45_1 rfl) rfl rfl ?_
            refine RL.ev (.load1 sh2 rfl ((hl.sub S).cell (enc := It.cells) (i := n) (j := 1) hx rfl)) rfl rfl ?_
            refine RL.ev (.as (v' := .agg #[.int .i64 0, .int .i64 x.v, .int .i64 0]) (.buildS ze39 pl39 rfl rfl) (by kernel_rfl)) rfl rfl ?_
            refine RL.alloc ze39 rfl rfl (fun b_8 w_8 e_8 z_8 hb_8 s_8 => ?_)
            have ge_8 := S.le e_8
            have n_3__8 := hb_3.ne e_8
            have n_4__8 := hb_4.ne e_8
            have S := S.trans s_8
            have hb_3 := hb_3.sub s_8
            have hb_4 := hb_4.sub s_8
            refine RL.store sh39 rfl rfl rfl hb_8 (by exact Nat.le_of_ble_eq_true rfl) (by rfl) rfl (fun w55 z55 hb_8 a55 => ?_)
            have S := S.upd a55 ge_8
            have hb_3 := hb_3.upd a55 n_3__8
            have hb_4 := hb_4.upd a55 n_4__8
            have hb_8 : Has w55 b_8 ([.int .i64 0, .int .i64 x.v, .int .i64 0]) _ := hb_8.now (by kernel_rfl)
            refine RL.nil (RC.back ?_)
            refine RC.seq ?_
            refine RC.seq ?_
            refine RC.region rfl ?_
            refine RL.ev (.field0 fo34_1 rfl) rfl rfl ?_
            refine RL.ev (.load1 sh3 rfl (hb_3.cell rfl)) rfl rfl ?_
            refine RL.ev (.bin rfl rfl rfl) rfl rfl ?_
            refine RL.nil (RC.back ?_)
            refine RC.cond_dec rfl (fun h56 => ?_) (fun h56 => ?_)
            ·
              have k3 := h56
              refine RC.seq ?_
              refine RC.drawD (fun k => k = b_4) [6] w55.heap.size 7 rfl rfl mxo (fun w57 s58 => ?_)
              have hNN : ∀ k, ((k = b_4) ∨ w55.heap.size ≤ k) → w.heap.size ≤ k := fun k e => e.elim (fun e => e ▸ ge_4) (fun e => Nat.le_trans S.size e)
              have ent_S := S.size
              have hN0 : ∀ k, w55.heap.size ≤ k → w.heap.size ≤ k := fun k e => Nat.le_trans S.size e
              have ltD_b_3 := hb_3.lt
              have ltD_b_4 := hb_4.lt
              have ltD_b_8 := hb_8.lt
              have szD := Nat.le_refl w55.heap.size
              have S := S.trans s58
              have hb_3 := hb_3.sub s58
              have hb_4 := hb_4.sub s58
              have hb_8 := hb_8.sub s58
              have szD := Nat.le_trans szD s58.size
              refine RD.take 0 rfl (by kernel_rfl) (by kernel_rfl) (by kernel_rfl) (fun w' s' => .move rfl) rfl rfl ?_
              refine RD.take 1 rfl (by kernel_rfl) (by kernel_rfl) (by kernel_rfl) (fun w' s' => .field0 fo34_2 rfl) rfl rfl ?_
              refine RD.take 2 rfl (by kernel_rfl) (by kernel_rfl) (by kernel_rfl) (fun w' s' => .load1 sh2 rfl ((hb_3.step s' (fun e => e.elim (fun e => n_3__4 e) (fun e => Nat.not_le.2 ltD_b_3 e))).cell rfl)) rfl rfl ?_
              refine RD.take 4 rfl (by kernel_rfl) (by kernel_rfl) (by kernel_rfl) (fun w' s' => .loadR ([.int .i64 0, .int .i64 x.v, .int .i64 0]) sh39 rfl (hb_8.step s' (fun e => e.elim (fun e => n_4__8.symm e) (fun e => Nat.not_le.2 ltD_b_8 e))).row rfl) rfl rfl ?_
              refine RD.all [3] (by kernel_rfl) rfl (RDs.cons rfl ?_ (RDs.nil))
              refine RL.call rfl ok55 (c_refDel l a c _ rfl o.a w57 (hl.sub S) (by omega)) rfl rfl ?_
              rintro _ w59 ⟨a8, c8, rfl, o8, s60⟩
              have lt4 := hb_4.lt
              have lt3 := hb_3.lt
              have lt8 := hb_8.lt
              have szS8 := S.size
              have S := S.trans s60
              have hb_3 := hb_3.sub s60
              have hb_4 := hb_4.sub s60
              have hb_8 := hb_8.sub s60
              have szD := Nat.le_trans szD s60.size
              have d84 : ∀ k, ob (.slice a8 ((delL l o.a).map It.cells).length c8) = some k → k ≠ b_4 := (fun k hk e => by have := (o8.ge k hk).1; omega)
              have d83 : ∀ k, ob (.slice a8 ((delL l o.a).map It.cells).length c8) = some k → k ≠ b_3 := (fun k hk e => by have := (o8.ge k hk).1; omega)
              have d88 : ∀ k, ob (.slice a8 ((delL l o.a).map It.cells).length c8) = some k → k ≠ b_8 := (fun k hk e => by have := (o8.ge k hk).1; omega)
              refine RD.back s60.agr ?_
              refine RD.take 5 rfl (by kernel_rfl) (by kernel_rfl) (by kernel_rfl) (fun w' s' => .as (v' := .agg #[.slice a8 ((delL l o.a).map It.cells).length c8, .int .i64 0, .int .i64 x.v, .int .i64 0]) (.buildS ze65 pl65 rfl rfl) (by kernel_rfl)) rfl rfl ?_
              refine RD.all [6] (by kernel_rfl) rfl (RDs.cons rfl ?_ (RDs.nil))
              refine RL.store sh65 rfl rfl rfl hb_4 (by exact Nat.le_of_ble_eq_true rfl) (by rfl) rfl (fun w61 z61 hb_4 a61 => ?_)
              have S := S.upd a61 ge_4
              have hb_3 := hb_3.upd a61 n_3__4
              have hb_8 := hb_8.upd a61 n_4__8.symm
              have szD := Nat.le_trans szD a61.size
              have o8 := o8.updD a61 d84
              have hb_4 : Has w61 b_4 ([.slice a8 ((delL l o.a).map It.cells).length c8, .int .i64 0, .int .i64 x.v, .int .i64 0]) _ := hb_4.now (by kernel_rfl)
              refine RD.backW rfl (a61.mono fun k _ e => e ▸ (.inl (rfl))) ?_
              refine RD.done (by kernel_rfl) (RC.back ?_)
              refine RC.done (rs := [.cell 4 65]) (vs := [_]) rfl rfl ⟨⟨_, rfl, .inr ⟨[.slice a8 ((delL l o.a).map It.cells).length c8, .int .i64 0, .int .i64 x.v, .int .i64 0], sh65, hb_4.row, rfl⟩⟩, trivial⟩ ?_
              -- end 11
              have he : pairsM l o = (delL l o.a, ⟨0, x.v, 0⟩) := (by rw [hdef, if_neg (by omega), if_neg (by omega), if_neg (by omega), if_neg (by omega), if_neg (by rw [is1]; simp), if_pos k3, hva])
              rw [he]
              obtain ⟨_, c9, e9, k9⟩ := o8.form
              cases e9
              rw [List.length_map] at k9
              exact ⟨S, _, _, _, by rw [List.length_map]; rfl, k9, o8.ft.imp (fun u h => h.sl.1), fun k hk => .inr (Nat.le_trans szS8 (o8.ge k hk).1)⟩
            ·
              have n3 := h56
              refine RC.skip (RC.back ?_)
              refine RC.seq ?_
              refine RC.region rfl ?_
              refine RL.ev (.move rfl) rfl rfl ?_
              refine RL.ev (.loadR ([.int .i64 0, .int .i64 x.v, .int .i64 0]) sh39 rfl hb_8.row rfl) rfl rfl ?_
              refine RL.ev (.as (v' := .agg #[.slice a l.length c, .int .i64 0, .int .i64 x.v, .int .i64 0]) (.buildS ze65 pl65 rfl rfl) (by kernel_rfl)) rfl rfl ?_
              refine RL.store sh65 rfl rfl rfl hb_4 (by exact Nat.le_of_ble_eq_true rfl) (by rfl) rfl (fun w62 z62 hb_4 a62 => ?_)
              have S := S.upd a62 ge_4
              have hb_3 := hb_3.upd a62 n_3__4
              have hb_8 := hb_8.upd a62 n_4__8.symm
              have hb_4 : Has w62 b_4 ([.slice a l.length c, .int .i64 0, .int .i64 x.v, .int .i64 0]) _ := hb_4.now (by kernel_rfl)
              refine RL.nil (RC.back ?_)
              refine RC.done (rs := [.cell 4 65]) (vs := [_]) rfl rfl ⟨⟨_, rfl, .inr ⟨[.slice a l.length c, .int .i64 0, .int .i64 x.v, .int .i64 0], sh65, hb_4.row, rfl⟩⟩, trivial⟩ ?_
              -- end 12
              have he : pairsM l o = (l, ⟨0, x.v, 0⟩) := (by rw [hdef, if_neg (by omega), if_neg (by omega), if_neg (by omega), if_neg (by omega), if_neg (by rw [is1]; simp), if_neg n3, hva])
              rw [he]
              exact ⟨S, _, _, M, rfl, hc, hF.sub S, Up.refl _ _⟩
end Go.Proofs.Ytjafbffehmombaa
