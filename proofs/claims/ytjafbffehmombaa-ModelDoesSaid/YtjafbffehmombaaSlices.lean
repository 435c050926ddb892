/-
  The package slices, for rows of keys with values: Clone, Delete, Insert, BinarySearchFunc, Equal.
-/
import Derived.Test.YtjafbffehmombaaBlit
import Derived.Test.YtjafbffehmombaaModel
set_option linter.unusedVariables false
set_option linter.unusedSimpArgs false
namespace Go.Proofs.Ytjafbffehmombaa
open Go Go.XL

theorem it_eqL (x y : It) : eqL x.cells y.cells = decide (x = y) := by
  cases x; cases y
  rw [Bool.eq_iff_iff, decide_eq_true_iff]
  simp [It.cells, eqL, eq1]
theorem c_clone (l : List It) (a : Option Addr) (c m : Nat) (hm : m = l.length) (w : World) (hl : Sl w a 2 (l.map It.cells)) (hb : l.length ≤ 1000000) :
    FC Try.prog 75 [.slice a m c] w (fun u w' => ∃ a' c', u = .slice a' l.length c' ∧ Ows w.heap.size w' 45 2 (.slice a' l.length c') (l.map It.cells) ∧ Sub w w') := by
  subst hm
  refine FC.intro Try.func75 rfl Try.ntmps75 rfl ?_
  have S := Sub.refl w
  refine RC.seq ?_
  refine RC.region rfl ?_
  refine RL.ev (.assign rfl) rfl rfl ?_
  refine RL.nil (RC.back ?_)
  refine RC.seq ?_
  refine RC.seq ?_
  refine RC.region rfl ?_
  refine RL.ev (.move rfl) rfl rfl ?_
  refine RL.ev (.eqNil sl22 rfl) rfl rfl ?_
  refine RL.nil (RC.back ?_)
  refine RC.cond rfl (fun h1 => ?_) (fun h1 => ?_)
  ·
    have h4 := h1
    have hnil : l = [] := (by refine Classical.byContradiction fun e => ?_; have q := hl.some (by simpa using e); cases a <;> simp at h4 q)
    refine RC.seq ?_
    refine RC.region rfl ?_
    refine RL.ev (.assign rfl) rfl rfl ?_
    refine RL.nil (RC.back ?_)
    refine RC.done (rs := [.tmp 2]) (vs := [_]) rfl rfl ⟨rfl, trivial⟩ ?_
    -- end 1
    subst hnil
    exact ⟨none, 0, rfl, Ows.nil _ _ _ _, S⟩
  ·
    have h4 := h1
    refine RC.skip (RC.back ?_)
    refine RC.seq ?_
    refine RC.region rfl ?_
    refine RL.buildSlice0 sl22 rfl rfl (fun b_5 w_5 e_5 z_5 hb_5 s_5 => ?_)
    have ge_5 := S.le e_5
    have S := S.trans s_5
    refine RL.ev (.move rfl) rfl rfl ?_
    have sz_7 := S.size
    have ltb_5_7 := hb_5.lt
    refine RL.append2 (base := w.heap.size) (rows := []) (news := l.map It.cells) sl22 ze45 rfl rfl rfl rfl (.inl (Ows.lit0 hb_5 (by omega))) (hl.sub S) (by (try simp only [List.length_map]); first | done | rfl) (by intro r hr; obtain ⟨x, _, rfl⟩ := List.mem_map.1 hr; rfl) (by rw [List.all_eq_true]; intro r hr; obtain ⟨x, _, rfl⟩ := List.mem_map.1 hr; rfl) (by (try simp only [List.length_map, List.length_nil, List.length_append, List.length_cons]); omega) (by (try simp only [List.length_map, List.length_nil, List.length_append, List.length_cons]); omega) (by omega) rfl rfl (fun v_7 w_7 hc_7 ho_7 ag_7 ob_7 => ?_)
    have o7 := ho_7 (.inr (Ows.lit0 hb_5 (by omega)))
    have S := S.agrN ag_7 (fun k e => Nat.le_trans (by omega) e.2)
    obtain ⟨a_7, c_7, rfl, k_7⟩ := o7.form
    refine RL.ev (.assign rfl) rfl rfl ?_
    refine RL.nil (RC.back ?_)
    refine RC.done (rs := [.tmp 2]) (vs := [_]) rfl rfl ⟨rfl, trivial⟩ ?_
    -- end 2
    rw [List.nil_append, List.length_map] at o7
    exact ⟨_, _, by rw [List.nil_append, List.length_map]; rfl, o7, S⟩
theorem it_plain (l : List It) : (l.map It.cells).all (fun r => r.all plainV) = true := by rw [List.all_eq_true]; intro r hr; obtain ⟨x, _, rfl⟩ := List.mem_map.1 hr; rfl
theorem wh_sl {w : World} {g : Nat} {e : TypeId} {l : List It} {ex : List (List Value)} (h : Has w g (l.map It.cells ++ ex).flatten e) : Sl w (some ⟨g, 0, none⟩) 2 (l.map It.cells) := Has.sl (extra := ex.flatten) (by rw [← List.flatten_append]; exact h) it_rows
theorem c_delete (l : List It) (g i : Nat) (ex : List (List Value)) (hex : ∀ r ∈ ex, r.length = 2) (hcap : l.length + ex.length ≤ 9223372036854775807) (hi : i < l.length) (w : World) (hg : Has w g (l.map It.cells ++ ex).flatten 45) :
    FC Try.prog 74 [.slice (some ⟨g, 0, none⟩) l.length (l.length + ex.length), .int .i64 (i : Int), .int .i64 ((i + 1 : Nat) : Int)] w (fun u w' => u = .slice (some ⟨g, 0, none⟩) (l.length - 1) (l.length + ex.length) ∧ (∃ R : List (List Value), Has w' g R.flatten 45 ∧ (∀ r ∈ R, r.length = 2) ∧ R.take (l.length - 1) = (l.take i ++ l.drop (i + 1)).map It.cells) ∧ Agr (· = g) w w') := by
  have hR : ∀ r ∈ l.map It.cells ++ ex, r.length = 2 := fun r hr => (List.mem_append.1 hr).elim (it_rows r) (hex r)
  have hS : Sl w (some ⟨g, 0, none⟩) 2 (l.map It.cells) := Has.sl (extra := ex.flatten) (by rw [← List.flatten_append]; exact hg) it_rows
  have hRl : (l.map It.cells ++ ex).length = l.length + ex.length := by rw [List.length_append, List.length_map]
  have G : Agr (· = g) w w := Agr.refl _ _
  have hD : ((l.drop (i + 1)).map It.cells).length = l.length - (i + 1) := by rw [List.length_map, List.length_drop]
  have e1 : i + (l.length - (i + 1)) = l.length - 1 := by omega
  have hB1 := blit_take (R := l.map It.cells ++ ex) (l := (l.drop (i + 1)).map It.cells) (o := i) (by omega)
  have hBl := blit_len (R := l.map It.cells ++ ex) (l := (l.drop (i + 1)).map It.cells) (o := i) (by omega)
  have hBr := blit_rows (s := 2) (R := l.map It.cells ++ ex) (l := (l.drop (i + 1)).map It.cells) (o := i) hR it_rows
  rw [hD, e1] at hB1
  have hTk : (l.map It.cells ++ ex).take i = (l.take i).map It.cells := by rw [List.take_append_of_le_length (by rw [List.length_map]; omega), List.map_take]
  refine FC.intro Try.func74 rfl Try.ntmps74 rfl ?_
  refine RC.seq ?_
  refine RC.region rfl ?_
  refine RL.ev (.assign rfl) rfl rfl ?_
  refine RL.nil (RC.back ?_)
  refine RC.seq ?_
  refine RC.region rfl ?_
  refine RL.ev (.move rfl) rfl rfl ?_
  refine RL.ev (.move rfl) rfl rfl ?_
  refine RL.ev (.move rfl) rfl rfl ?_
  refine RL.ev (.move rfl) rfl rfl ?_
  refine RL.ev (.len sl22 rfl) rfl rfl ?_
  refine RL.ev (.sliceLHM sl22 rfl rfl rfl rfl (by omega)) rfl rfl ?_
  refine RL.nil (RC.back ?_)
  refine RC.seq ?_
  refine RC.seq ?_
  refine RC.region rfl ?_
  refine RL.ev (.move rfl) rfl rfl ?_
  refine RL.ev (.move rfl) rfl rfl ?_
  refine RL.ev (.bin rfl rfl rfl) rfl rfl ?_
  refine RL.nil (RC.back ?_)
  refine RC.cond_dec rfl (fun h1 => ?_) (fun h1 => ?_)
  ·
    exact absurd h1 (by omega)
  ·
    refine RC.skip (RC.back ?_)
    refine RC.seq ?_
    refine RC.region rfl ?_
    refine RL.ev (.move rfl) rfl rfl ?_
    refine RL.ev (.len sl22 rfl) rfl rfl ?_
    refine RL.ev (.assign rfl) rfl rfl ?_
    refine RL.nil (RC.back ?_)
    refine RC.seq ?_
    refine RC.drawD (fun k => k = g) [6] w.heap.size 8 rfl rfl mxo (fun w2 s3 => ?_)
    have ltD_g := hg.lt
    have szD := Nat.le_refl w.heap.size
    have hg := hg.sub s3
    have G := G.trans s3.agr
    have szD := Nat.le_trans szD s3.size
    refine RD.take 0 rfl (by kernel_rfl) (by kernel_rfl) (by kernel_rfl) (fun w' s' => .move rfl) rfl rfl ?_
    refine RD.take 1 rfl (by kernel_rfl) (by kernel_rfl) (by kernel_rfl) (fun w' s' => .move rfl) rfl rfl ?_
    refine RD.take 2 rfl (by kernel_rfl) (by kernel_rfl) (by kernel_rfl) (fun w' s' => .sliceHi sl22 rfl rfl (by omega)) rfl rfl ?_
    refine RD.take 3 rfl (by kernel_rfl) (by kernel_rfl) (by kernel_rfl) (fun w' s' => .move rfl) rfl rfl ?_
    refine RD.take 4 rfl (by kernel_rfl) (by kernel_rfl) (by kernel_rfl) (fun w' s' => .move rfl) rfl rfl ?_
    refine RD.take 5 rfl (by kernel_rfl) (by kernel_rfl) (by kernel_rfl) (fun w' s' => .sliceLo sl22 rfl rfl (by omega)) rfl rfl ?_
    refine RD.all [6] (by kernel_rfl) rfl (RDs.cons rfl ?_ (RDs.nil))
    refine RL.appendB (R := l.map It.cells ++ ex) (l := (l.drop (i + 1)).map It.cells) (o := i) (k := l.length - (i + 1)) (c := l.length + ex.length) sl22 rfl rfl rfl hg hR (by omega) (by omega) (slDropM (wh_sl hg) (i + 1) (by omega)) hD.symm it_rows (it_plain _) rfl rfl (fun w4 z26 hg a26 => ?_)
    rw [e1]
    have G := G.trans a26
    have szD := Nat.le_trans szD a26.size
    refine RD.backW rfl (a26.mono fun k _ e => .inl e) ?_
    refine RD.take 7 rfl (by kernel_rfl) (by kernel_rfl) (by kernel_rfl) (fun w' s' => .assign rfl) rfl rfl ?_
    refine RD.done (by kernel_rfl) (RC.back ?_)
    refine RC.seq ?_
    refine RC.region rfl ?_
    refine RL.ev (.move rfl) rfl rfl ?_
    refine RL.ev (.move rfl) rfl rfl ?_
    refine RL.ev (.len sl22 rfl) rfl rfl ?_
    refine RL.ev (.move rfl) rfl rfl ?_
    refine RL.ev (.as (v' := .slice (some ⟨g, (l.length - 1) * 2, none⟩) 1 (ex.length + 1)) (.sliceLH sl22 rfl rfl rfl (by omega)) (by rw [sl_at (by omega)]; congr 1 <;> omega)) rfl rfl ?_
    refine RL.clearB (R := blit (l.map It.cells ++ ex) i ((l.drop (i + 1)).map It.cells)) (o := l.length - 1) (m := 1) sl22 ze45 rfl rfl rfl rfl hg hBr (by omega) rfl rfl (fun w5 z31 hg a31 => ?_)
    have G := G.trans a31
    refine RL.nil (RC.back ?_)
    refine RC.seq ?_
    refine RC.region rfl ?_
    refine RL.ev (.move rfl) rfl rfl ?_
    refine RL.ev (.assign rfl) rfl rfl ?_
    refine RL.nil (RC.back ?_)
    refine RC.done (rs := [.tmp 6]) (vs := [_]) rfl rfl ⟨rfl, trivial⟩ ?_
    -- end 1
    refine ⟨rfl, ⟨_, hg, blit_rows hBr (fun r hr => by rw [(List.mem_replicate.1 hr).2]; rfl), ?_⟩, G⟩
    rw [(blit_take (by rw [hBl, List.length_replicate]; omega)).1, hB1.2, hTk, ← List.map_append]
theorem Has.ftW {w : World} {b : Nat} {cs : List Value} {e : TypeId} (h : Has w b cs e) : Ft (· = b) (fun u => Has u b cs e) w := ⟨fun k hk => hk ▸ h.lt, fun u a => h.step a (fun hn => hn rfl)⟩
theorem c_insertEnd (l : List It) (x : It) (base : Nat) (sa : Option Addr) (sc bv : Nat) (w : World) (ov : Ows base w 45 2 (.slice sa l.length sc) (l.map It.cells)) (hbase : base ≤ w.heap.size) (hb : l.length ≤ 1000000) (hv : Sl w (some ⟨bv, 0, none⟩) 2 ([x].map It.cells)) :
    FC Try.prog 77 [.slice sa l.length sc, .int .i64 (l.length : Int), .slice (some ⟨bv, 0, none⟩) 1 1] w (fun u w' => ∃ a' c' M, u = .slice a' (l.length + 1) c' ∧ l.length + 1 ≤ c' ∧ Ft M (fun u => Sl u a' 2 ((l ++ [x]).map It.cells)) w' ∧ (∀ k, M k → base ≤ k) ∧ Agr (fun k => ob (.slice sa l.length sc) = some k) w w') := by
  have G : Agr (fun k => ob (.slice sa l.length sc) = some k) w w := Agr.refl _ _
  refine FC.intro Try.func77 rfl Try.ntmps77 rfl ?_
  refine RC.seq ?_
  refine RC.region rfl ?_
  refine RL.ev (.assign rfl) rfl rfl ?_
  refine RL.nil (RC.back ?_)
  refine RC.seq ?_
  refine RC.region rfl ?_
  refine RL.ev (.move rfl) rfl rfl ?_
  refine RL.ev (.move rfl) rfl rfl ?_
  refine RL.ev (.sliceLo sl22 rfl rfl (by omega)) rfl rfl ?_
  refine RL.nil (RC.back ?_)
  refine RC.seq ?_
  refine RC.region rfl ?_
  refine RL.ev (.move rfl) rfl rfl ?_
  refine RL.ev (.len sl22 rfl) rfl rfl ?_
  refine RL.ev (.assign rfl) rfl rfl ?_
  refine RL.nil (RC.back ?_)
  refine RC.seq ?_
  refine RC.seq ?_
  refine RC.region rfl ?_
  refine RL.ev (.move rfl) rfl rfl ?_
  refine RL.ev (.bin rfl rfl rfl) rfl rfl ?_
  refine RL.nil (RC.back ?_)
  refine RC.cond_dec rfl (fun h1 => ?_) (fun h1 => ?_)
  ·
    exact absurd h1 (by decide)
  ·
    refine RC.skip (RC.back ?_)
    refine RC.seq ?_
    refine RC.region rfl ?_
    refine RL.ev (.move rfl) rfl rfl ?_
    refine RL.ev (.len sl22 rfl) rfl rfl ?_
    refine RL.ev (.assign rfl) rfl rfl ?_
    refine RL.nil (RC.back ?_)
    refine RC.seq ?_
    refine RC.seq ?_
    refine RC.region rfl ?_
    refine RL.ev (.move rfl) rfl rfl ?_
    refine RL.ev (.move rfl) rfl rfl ?_
    refine RL.ev (.bin rfl rfl rfl) rfl rfl ?_
    refine RL.nil (RC.back ?_)
    refine RC.cond_dec rfl (fun h2 => ?_) (fun h2 => ?_)
    ·
      refine RC.seq ?_
      refine RC.region rfl ?_
      refine RL.ev (.move rfl) rfl rfl ?_
      refine RL.ev (.move rfl) rfl rfl ?_
      have szG_25 := G.size
      refine RL.append2 (base := base) (rows := l.map It.cells) (news := [x].map It.cells) sl22 ze45 rfl rfl rfl rfl (.inl ov) hv (by (try simp only [List.length_map]); first | done | rfl) (by intro r hr; obtain ⟨x, _, rfl⟩ := List.mem_map.1 hr; rfl) (by rw [List.all_eq_true]; intro r hr; obtain ⟨x, _, rfl⟩ := List.mem_map.1 hr; rfl) (by (try simp only [List.length_map, List.length_nil, List.length_append, List.length_cons]); omega) (by (try simp only [List.length_map, List.length_nil, List.length_append, List.length_cons]); omega) (by omega) rfl rfl (fun v_25 w_25 hc_25 ho_25 ag_25 ob_25 => ?_)
      have o25 := ho_25 (.inr ov)
      have G := G.trans (ag_25.mono fun k _ e => e.1)
      obtain ⟨a_25, c_25, rfl, k_25⟩ := o25.form
      refine RL.ev (.assign rfl) rfl rfl ?_
      refine RL.nil (RC.back ?_)
      refine RC.done (rs := [.tmp 6]) (vs := [_]) rfl rfl ⟨rfl, trivial⟩ ?_
      -- end 1
      rw [← List.map_append, List.length_map, List.length_append, List.length_singleton] at o25
      exact ⟨_, _, _, by rw [← List.map_append, List.length_map, List.length_append, List.length_singleton]; rfl, by have q := k_25; rw [List.length_append, List.length_map, List.length_map, List.length_singleton] at q; exact q, o25.ft.imp (fun u h => h.sl.1), fun k hk => (o25.ge k hk).1, G⟩
    ·
      exact absurd rfl h2
theorem ins_take {R D : List (List Value)} {x : List Value} {i n : Nat} (hn : n = i + 1 + D.length) (h : n ≤ R.length) : (blit (blit R (i + 1) D) i [x]).take n = R.take i ++ [x] ++ D := by
  have h1 : i + 1 + D.length ≤ R.length := by omega
  have hl := blit_len h1
  subst hn
  unfold blit
  have e1 : (R.take (i + 1) ++ D ++ R.drop (i + 1 + D.length)).take i = R.take i := by
    rw [List.append_assoc, List.take_append_of_le_length (by rw [List.length_take]; omega), List.take_take, Nat.min_eq_left (by omega)]
  have e2 : (R.take (i + 1) ++ D ++ R.drop (i + 1 + D.length)).drop (i + [x].length) = D ++ R.drop (i + 1 + D.length) := by
    have q : (R.take (i + 1)).length = i + 1 := by rw [List.length_take]; omega
    rw [List.append_assoc, List.length_singleton]
    exact List.drop_left' q
  rw [e1, e2, ← List.append_assoc]
  refine (List.take_append_of_le_length ?_).trans (List.take_of_length_le ?_) <;> (simp only [List.length_append, List.length_take, List.length_singleton]; omega)
theorem c_insertMid (l : List It) (x : It) (g i : Nat) (ex : List (List Value)) (bv : Nat) (hex : ∀ r ∈ ex, r.length = 2) (hcap : l.length + ex.length ≤ 9223372036854775807) (hll : l.length ≤ 1000000) (hi : i < l.length) (w : World) (hg : Has w g (l.map It.cells ++ ex).flatten 45) (hv : Has w bv x.cells 45) (hne : bv ≠ g) :
    FC Try.prog 77 [.slice (some ⟨g, 0, none⟩) l.length (l.length + ex.length), .int .i64 (i : Int), .slice (some ⟨bv, 0, none⟩) 1 1] w (fun u w' => ∃ a' c' M, u = .slice a' (l.length + 1) c' ∧ l.length + 1 ≤ c' ∧ Ft M (fun u => Sl u a' 2 ((l.take i ++ x :: l.drop i).map It.cells)) w' ∧ (∀ k, M k → k = g ∨ w.heap.size ≤ k) ∧ Agr (fun k => k = g) w w') := by
  have hR : ∀ r ∈ l.map It.cells ++ ex, r.length = 2 := fun r hr => (List.mem_append.1 hr).elim (it_rows r) (hex r)
  have hRl : (l.map It.cells ++ ex).length = l.length + ex.length := by rw [List.length_append, List.length_map]
  have G : Agr (fun k => k = g) w w := Agr.refl _ _
  have ltg := hg.lt
  have ltv := hv.lt
  have hTk : (l.map It.cells ++ ex).take i = (l.take i).map It.cells := by rw [List.take_append_of_le_length (by rw [List.length_map]; omega), List.map_take]
  have hDl : ((l.drop i).map It.cells).length = l.length - i := by rw [List.length_map, List.length_drop]
  have hm1 : min 1 (l.length + 1 - i) = 1 := by omega
  have hm2 : min (l.length - i) (l.length - i) = l.length - i := by omega
  have hm3 : min (l.length + 1 - i) (l.length - i) = l.length - i := by omega
  have hx2 : ∀ r ∈ [x.cells], r.length = 2 := fun r hr => by rw [List.mem_singleton.1 hr]; rfl
  have hfin : ((l.take i).map It.cells ++ [x.cells] ++ (l.drop i).map It.cells) = (l.take i ++ x :: l.drop i).map It.cells := by simp
  have hDt : ((l.drop i).map It.cells).take (l.length - i) = (l.drop i).map It.cells := List.take_of_length_le (by omega)
  have hRd : (((l.map It.cells ++ ex).drop i).take (l.length + 1 - i)).take (l.length - i) = (l.drop i).map It.cells := by
    rw [List.take_take, Nat.min_eq_left (by omega), List.drop_append_of_le_length (by rw [List.length_map]; omega), List.take_append_of_le_length (by rw [List.length_drop, List.length_map]; omega), ← List.map_drop, hDt]
  refine FC.intro Try.func77 rfl Try.ntmps77 rfl ?_
  refine RC.seq ?_
  refine RC.region rfl ?_
  refine RL.ev (.assign rfl) rfl rfl ?_
  refine RL.nil (RC.back ?_)
  refine RC.seq ?_
  refine RC.region rfl ?_
  refine RL.ev (.move rfl) rfl rfl ?_
  refine RL.ev (.move rfl) rfl rfl ?_
  refine RL.ev (.sliceLo sl22 rfl rfl (by omega)) rfl rfl ?_
  refine RL.nil (RC.back ?_)
  refine RC.seq ?_
  refine RC.region rfl ?_
  refine RL.ev (.move rfl) rfl rfl ?_
  refine RL.ev (.len sl22 rfl) rfl rfl ?_
  refine RL.ev (.assign rfl) rfl rfl ?_
  refine RL.nil (RC.back ?_)
  refine RC.seq ?_
  refine RC.seq ?_
  refine RC.region rfl ?_
  refine RL.ev (.move rfl) rfl rfl ?_
  refine RL.ev (.bin rfl rfl rfl) rfl rfl ?_
  refine RL.nil (RC.back ?_)
  refine RC.cond_dec rfl (fun h1 => ?_) (fun h1 => ?_)
  ·
    exact absurd h1 (by decide)
  ·
    refine RC.skip (RC.back ?_)
    refine RC.seq ?_
    refine RC.region rfl ?_
    refine RL.ev (.move rfl) rfl rfl ?_
    refine RL.ev (.len sl22 rfl) rfl rfl ?_
    refine RL.ev (.assign rfl) rfl rfl ?_
    refine RL.nil (RC.back ?_)
    refine RC.seq ?_
    refine RC.seq ?_
    refine RC.region rfl ?_
    refine RL.ev (.move rfl) rfl rfl ?_
    refine RL.ev (.move rfl) rfl rfl ?_
    refine RL.ev (.bin rfl rfl rfl) rfl rfl ?_
    refine RL.nil (RC.back ?_)
    refine RC.cond_dec rfl (fun h2 => ?_) (fun h2 => ?_)
    ·
      exact absurd h2 (by omega)
    ·
      refine RC.skip (RC.back ?_)
      refine RC.seq ?_
      refine RC.seq ?_
      refine RC.region rfl ?_
      refine RL.ev (.move rfl) rfl rfl ?_
      refine RL.ev (.move rfl) rfl rfl ?_
      refine RL.ev (.as (.bin rfl rfl rfl) (wi64 (y := ((l.length + 1 : Nat) : Int)) (by omega) (by omega))) rfl rfl ?_
      refine RL.ev (.move rfl) rfl rfl ?_
      refine RL.ev (.cap sl22 rfl) rfl rfl ?_
      refine RL.ev (.bin rfl rfl rfl) rfl rfl ?_
      refine RL.nil (RC.back ?_)
      refine RC.cond_dec rfl (fun h3 => ?_) (fun h3 => ?_)
      ·
        have h31 : l.length + ex.length < l.length + 1 := (by omega)
        have nbv_g : bv ≠ g := by exact hne
        refine RC.seq ?_
        refine RC.region rfl ?_
        refine RL.ev (.move rfl) rfl rfl ?_
        refine RL.ev (.move rfl) rfl rfl ?_
        refine RL.ev (.sliceHi sl22 rfl rfl (by omega)) rfl rfl ?_
        refine RL.ev (.move rfl) rfl rfl ?_
        refine RL.ev (.move rfl) rfl rfl ?_
        refine RL.ev (.as (.bin rfl rfl rfl) (wi64 (y := ((l.length + 1 : Nat) : Int)) (by omega) (by omega))) rfl rfl ?_
        refine RL.ev (.move rfl) rfl rfl ?_
        refine RL.ev (.as (.bin rfl rfl rfl) (wi64 (y := ((l.length + 1 - i : Nat) : Int)) (by omega) (by omega))) rfl rfl ?_
        refine RL.appendZ (o := i) (k := l.length + 1 - i) (c := l.length + ex.length) (R := l.map It.cells ++ ex) sl22 Try.underlying3 ze45 rfl rfl rfl rfl hg hR (by omega) (by omega) (by omega) (by omega) (by omega) rfl rfl (fun b_9 w4 cap9 ex9 e_9 hc9 hb_9 hcx9 s9 => ?_)
        have hn9 : i + (l.length + 1 - i) = l.length + 1 := (by omega)
        rw [hn9] at hc9 hcx9 ⊢
        have nb_9_g : b_9 ≠ g := by rw [e_9]; exact fun e => by rw [e] at ltg; omega
        have nb_9_bv : b_9 ≠ bv := by rw [e_9]; exact fun e => by rw [e] at ltv; omega
        have geG_9 := agLe G e_9
        have hg := hg.sub s9
        have hv := hv.sub s9
        have G := G.trans s9.agr
        obtain ⟨R9, hq9⟩ : ∃ R9, R9 = (l.map It.cells ++ ex).take i ++ List.replicate (l.length + 1 - i) [Value.int .i64 0, .int .i64 0] ++ List.replicate ex9 [Value.int .i64 0, .int .i64 0] := ⟨_, rfl⟩
        have hb_9 : Has w4 b_9 R9.flatten _ := (by rw [hq9]; exact hb_9)
        have hR9l : R9.length = l.length + 1 + ex9 := (by rw [hq9, List.length_append, List.length_append, List.length_take, List.length_replicate, List.length_replicate]; omega)
        have hR9t : R9.take i = (l.take i).map It.cells := (by rw [hq9, List.append_assoc, List.take_append_of_le_length (by rw [List.length_take]; omega), List.take_take, Nat.min_self, hTk])
        have hR9 : ∀ r ∈ R9, r.length = 2 := (fun r hr => by rw [hq9] at hr; rcases List.mem_append.1 hr with hr | hr; rcases List.mem_append.1 hr with hr | hr; exact hR r (List.mem_of_mem_take hr); rw [(List.mem_replicate.1 hr).2]; rfl; rw [(List.mem_replicate.1 hr).2]; rfl)
        refine RL.ev (.assign rfl) rfl rfl ?_
        refine RL.nil (RC.back ?_)
        refine RC.seq ?_
        refine RC.region rfl ?_
        refine RL.ev (.move rfl) rfl rfl ?_
        refine RL.ev (.move rfl) rfl rfl ?_
        refine RL.ev (.as (v' := .slice (some ⟨b_9, i * 2, none⟩) (l.length + 1 - i) (cap9 - i)) (.sliceLo sl22 rfl rfl (by omega)) (by rw [sl_at (by omega)]; rfl)) rfl rfl ?_
        refine RL.ev (.move rfl) rfl rfl ?_
        refine RL.copyB (o := i) (k := 1) (m := l.length + 1 - i) (R := R9) (l := [x.cells]) sl22 rfl rfl rfl hb_9 hR9 (by omega) (Has.sl0 (rows := [x.cells]) (by simpa using hv) hx2) rfl hx2 (by rw [hm1]; rfl) rfl rfl (fun w5 z45 hb_9 a45 => ?_)
        have hg := hg.upd a45 nb_9_g.symm
        have hv := hv.upd a45 nb_9_bv.symm
        have G := agNew G a45 geG_9
        rw [hm1] at hb_9
        have hb_9 : Has w5 b_9 (blit R9 i [x.cells]).flatten _ := hb_9
        have hBl := blit_len (R := R9) (l := [x.cells]) (o := i) (by simp; omega)
        have hBr := blit_rows (s := 2) (o := i) hR9 hx2
        refine RL.nil (RC.back ?_)
        refine RC.seq ?_
        refine RC.drawD (fun k => k = b_9) [8] w5.heap.size 9 rfl rfl mxo (fun w6 s7 => ?_)
        have ltD_g := hg.lt
        have ltD_bv := hv.lt
        have ltD_b_9 := hb_9.lt
        have szD := Nat.le_refl w5.heap.size
        have hg := hg.sub s7
        have hv := hv.sub s7
        have G := G.trans s7.agr
        have hb_9 := hb_9.sub s7
        have szD := Nat.le_trans szD s7.size
        refine RD.take 0 rfl (by kernel_rfl) (by kernel_rfl) (by kernel_rfl) (fun w' s' => .move rfl) rfl rfl ?_
        refine RD.take 1 rfl (by kernel_rfl) (by kernel_rfl) (by kernel_rfl) (fun w' s' => .move rfl) rfl rfl ?_
        refine RD.take 2 rfl (by kernel_rfl) (by kernel_rfl) (by kernel_rfl) (fun w' s' => .move rfl) rfl rfl ?_
        refine RD.take 3 rfl (by kernel_rfl) (by kernel_rfl) (by kernel_rfl) (fun w' s' => .as (.bin rfl rfl rfl) (wi64 (y := ((i + 1 : Nat) : Int)) (by omega) (by omega))) rfl rfl ?_
        refine RD.take 4 rfl (by kernel_rfl) (by kernel_rfl) (by kernel_rfl) (fun w' s' => .as (v' := .slice (some ⟨b_9, (i + 1) * 2, none⟩) (l.length - i) (cap9 - (i + 1))) (.sliceLo sl22 rfl rfl (by omega)) (by rw [sl_at (by omega)]; congr 1 <;> omega)) rfl rfl ?_
        refine RD.take 5 rfl (by kernel_rfl) (by kernel_rfl) (by kernel_rfl) (fun w' s' => .move rfl) rfl rfl ?_
        refine RD.take 6 rfl (by kernel_rfl) (by kernel_rfl) (by kernel_rfl) (fun w' s' => .move rfl) rfl rfl ?_
        refine RD.take 7 rfl (by kernel_rfl) (by kernel_rfl) (by kernel_rfl) (fun w' s' => .sliceLo sl22 rfl rfl (by omega)) rfl rfl ?_
        refine RD.all [8] (by kernel_rfl) rfl (RDs.cons rfl ?_ (RDs.nil))
        refine RL.copyB (o := i + 1) (k := l.length - i) (m := l.length - i) (R := blit R9 i [x.cells]) (l := (l.drop i).map It.cells) sl22 rfl rfl rfl hb_9 hBr (by omega) (slDropM (wh_sl hg) i (by omega)) hDl.symm it_rows (by rw [hm2, hDt]; exact it_plain _) rfl rfl (fun w8 z54 hb_9 a54 => ?_)
        have hg := hg.upd a54 nb_9_g.symm
        have hv := hv.upd a54 nb_9_bv.symm
        have G := agNew G a54 geG_9
        have szD := Nat.le_trans szD a54.size
        rw [hm2, hDt] at hb_9
        refine RD.backW rfl (a54.mono fun k _ e => .inl e) ?_
        refine RD.done (by kernel_rfl) (RC.back ?_)
        refine RC.seq ?_
        refine RC.region rfl ?_
        refine RL.ev (.move rfl) rfl rfl ?_
        refine RL.ev (.assign rfl) rfl rfl ?_
        refine RL.nil (RC.back ?_)
        refine RC.done (rs := [.tmp 6]) (vs := [_]) rfl rfl ⟨rfl, trivial⟩ ?_
        -- end 1
        have q := (Has.ftW hb_9).imp (fun u h => Has.slN h (blit_rows hBr it_rows) (i + 1 + (l.length - i)))
        have q2 := (blit_take (R := blit R9 i [x.cells]) (l := (l.drop i).map It.cells) (o := i + 1) (by omega)).2
        rw [hDl] at q2
        have q3 : (blit R9 i [x.cells]).take (i + 1) = _ := (blit_take (R := R9) (l := [x.cells]) (o := i) (by simp; omega)).2
        rw [q2, q3, hR9t, hfin] at q
        exact ⟨_, _, _, rfl, hc9, q, fun k hk => .inr (by rw [hk]; exact geG_9), G⟩
      ·
        have h31 : 1 ≤ ex.length := (by omega)
        have nbv_g : bv ≠ g := by exact hne
        refine RC.skip (RC.back ?_)
        refine RC.seq ?_
        refine RC.region rfl ?_
        refine RL.ev (.move rfl) rfl rfl ?_
        refine RL.ev (.move rfl) rfl rfl ?_
        refine RL.ev (.move rfl) rfl rfl ?_
        refine RL.ev (.as (.bin rfl rfl rfl) (wi64 (y := ((l.length + 1 : Nat) : Int)) (by omega) (by omega))) rfl rfl ?_
        refine RL.ev (.sliceHi sl22 rfl rfl (by omega)) rfl rfl ?_
        refine RL.ev (.assign rfl) rfl rfl ?_
        refine RL.nil (RC.back ?_)
        refine RC.seq ?_
        refine RC.seq ?_
        refine RC.region rfl ?_
        refine RL.ev (.move rfl) rfl rfl ?_
        refine RL.ev (.move rfl) rfl rfl ?_
        refine RL.ev (.move rfl) rfl rfl ?_
        refine RL.ev (.move rfl) rfl rfl ?_
        refine RL.ev (.as (.bin rfl rfl rfl) (wi64 (y := ((i + 1 : Nat) : Int)) (by omega) (by omega))) rfl rfl ?_
        refine RL.ev (.as (v' := .slice (some ⟨g, (i + 1) * 2, none⟩) (l.length - i) (l.length + ex.length - (i + 1))) (.sliceLo sl22 rfl rfl (by omega)) (by rw [sl_at (by omega)]; congr 1 <;> omega)) rfl rfl ?_
        refine RL.overlapsF (tR := 4) (a := ⟨bv, 0, none⟩) (b := ⟨g, (i + 1) * 2, none⟩) rfl rfl rfl (by kernel_rfl) (by kernel_rfl) sl22 rfl rfl hv hg hne (fun e => by have q := congrArg List.length e; rw [flat_len _ hR, hRl] at q; simp at q; omega) rfl rfl ?_
        refine RL.ev (.not rfl) rfl rfl ?_
        refine RL.nil (RC.back ?_)
        refine RC.cond_t rfl ?_
        refine RC.seq ?_
        refine RC.drawD (fun k => k = g) [8] w.heap.size 9 rfl rfl mxo (fun w10 s11 => ?_)
        have ltD_g := hg.lt
        have ltD_bv := hv.lt
        have szD := Nat.le_refl w.heap.size
        have hg := hg.sub s11
        have hv := hv.sub s11
        have G := G.trans s11.agr
        have szD := Nat.le_trans szD s11.size
        refine RD.take 0 rfl (by kernel_rfl) (by kernel_rfl) (by kernel_rfl) (fun w' s' => .move rfl) rfl rfl ?_
        refine RD.take 1 rfl (by kernel_rfl) (by kernel_rfl) (by kernel_rfl) (fun w' s' => .move rfl) rfl rfl ?_
        refine RD.take 2 rfl (by kernel_rfl) (by kernel_rfl) (by kernel_rfl) (fun w' s' => .move rfl) rfl rfl ?_
        refine RD.take 3 rfl (by kernel_rfl) (by kernel_rfl) (by kernel_rfl) (fun w' s' => .as (.bin rfl rfl rfl) (wi64 (y := ((i + 1 : Nat) : Int)) (by omega) (by omega))) rfl rfl ?_
        refine RD.take 4 rfl (by kernel_rfl) (by kernel_rfl) (by kernel_rfl) (fun w' s' => .as (v' := .slice (some ⟨g, (i + 1) * 2, none⟩) (l.length - i) (l.length + ex.length - (i + 1))) (.sliceLo sl22 rfl rfl (by omega)) (by rw [sl_at (by omega)]; congr 1 <;> omega)) rfl rfl ?_
        refine RD.take 5 rfl (by kernel_rfl) (by kernel_rfl) (by kernel_rfl) (fun w' s' => .move rfl) rfl rfl ?_
        refine RD.take 6 rfl (by kernel_rfl) (by kernel_rfl) (by kernel_rfl) (fun w' s' => .move rfl) rfl rfl ?_
        refine RD.take 7 rfl (by kernel_rfl) (by kernel_rfl) (by kernel_rfl) (fun w' s' => .as (v' := .slice (some ⟨g, i * 2, none⟩) (l.length + 1 - i) (l.length + ex.length - i)) (.sliceLo sl22 rfl rfl (by omega)) (by rw [sl_at (by omega)]; rfl)) rfl rfl ?_
        refine RD.all [8] (by kernel_rfl) rfl (RDs.cons rfl ?_ (RDs.nil))
        refine RL.copyB (o := i + 1) (k := l.length + 1 - i) (m := l.length - i) (R := l.map It.cells ++ ex) (l := ((l.map It.cells ++ ex).drop i).take (l.length + 1 - i)) sl22 rfl rfl rfl hg hR (by omega) ((sl_drop_at (hg.sl0 hR) i).take _) (by rw [List.length_take, List.length_drop]; omega) (fun r hr => hR r (List.mem_of_mem_drop (List.mem_of_mem_take hr))) (by rw [hm3, hRd]; exact it_plain _) rfl rfl (fun w12 z77 hg a77 => ?_)
        have hv := hv.upd a77 nbv_g
        have G := G.trans a77
        have szD := Nat.le_trans szD a77.size
        rw [hm3, hRd] at hg
        have hB1l := blit_len (R := l.map It.cells ++ ex) (l := (l.drop i).map It.cells) (o := i + 1) (by omega)
        have hB1r := blit_rows (s := 2) (o := i + 1) hR (it_rows (l := l.drop i))
        refine RD.backW rfl (a77.mono fun k _ e => .inl e) ?_
        refine RD.done (by kernel_rfl) (RC.back ?_)
        refine RC.seq ?_
        refine RC.region rfl ?_
        refine RL.ev (.move rfl) rfl rfl ?_
        refine RL.ev (.move rfl) rfl rfl ?_
        refine RL.ev (.as (v' := .slice (some ⟨g, i * 2, none⟩) (l.length + 1 - i) (l.length + ex.length - i)) (.sliceLo sl22 rfl rfl (by omega)) (by rw [sl_at (by omega)]; rfl)) rfl rfl ?_
        refine RL.ev (.move rfl) rfl rfl ?_
        refine RL.copyB (o := i) (k := 1) (m := l.length + 1 - i) (R := blit (l.map It.cells ++ ex) (i + 1) ((l.drop i).map It.cells)) (l := [x.cells]) sl22 rfl rfl rfl hg hB1r (by omega) (Has.sl0 (rows := [x.cells]) (by simpa using hv) hx2) rfl hx2 (by rw [hm1]; rfl) rfl rfl (fun w13 z82 hg a82 => ?_)
        have hv := hv.upd a82 nbv_g
        have G := G.trans a82
        rw [hm1] at hg
        have hg : Has w13 g (blit (blit (l.map It.cells ++ ex) (i + 1) ((l.drop i).map It.cells)) i [x.cells]).flatten _ := hg
        refine RL.nil (RC.back ?_)
        refine RC.seq ?_
        refine RC.region rfl ?_
        refine RL.ev (.move rfl) rfl rfl ?_
        refine RL.ev (.assign rfl) rfl rfl ?_
        refine RL.nil (RC.back ?_)
        refine RC.done (rs := [.tmp 6]) (vs := [_]) rfl rfl ⟨rfl, trivial⟩ ?_
        -- end 2
        have q := (Has.ftW hg).imp (fun u h => Has.slN h (blit_rows hB1r hx2) (l.length + 1))
        rw [ins_take (by omega) (by omega), hTk, hfin] at q
        exact ⟨_, _, _, rfl, by omega, q, fun k hk => .inl hk, G⟩
theorem c_insert (l : List It) (x : It) (base : Nat) (sa : Option Addr) (sc bv i : Nat) (w : World) (ov : Ows base w 45 2 (.slice sa l.length sc) (l.map It.cells)) (hbase : base ≤ w.heap.size) (hb : sc ≤ 9223372036854775807) (hl : l.length ≤ 1000000) (hi : i ≤ l.length) (hv : Has w bv x.cells 45) (hne : ∀ k, ob (.slice sa l.length sc) = some k → k ≠ bv) :
    FC Try.prog 77 [.slice sa l.length sc, .int .i64 (i : Int), .slice (some ⟨bv, 0, none⟩) 1 1] w (fun u w' => ∃ a' c' M, u = .slice a' (l.length + 1) c' ∧ l.length + 1 ≤ c' ∧ Ft M (fun u => Sl u a' 2 ((l.take i ++ x :: l.drop i).map It.cells)) w' ∧ (∀ k, M k → base ≤ k) ∧ Agr (fun k => ob (.slice sa l.length sc) = some k) w w') := by
  by_cases h : i = l.length
  · subst h
    refine FC.mono (c_insertEnd l x base sa sc bv w ov hbase hl (Has.sl0 (rows := [x].map It.cells) (by simpa using hv) it_rows)) (fun u w' ⟨a', c', M, h1, h0, h2, h4, h3⟩ => ⟨a', c', M, h1, h0, ?_, h4, h3⟩)
    rw [List.take_length, List.drop_length]; exact h2
  · obtain ⟨g, ex, e1, e2, e3, e4, e5⟩ := ov.whole.resolve_left (fun q => by have := congrArg List.length q.2; simp only [List.length_map, List.length_nil] at this; omega)
    rw [List.length_map] at e1
    injection e1 with f1 f2 f3
    subst f1 f3
    refine FC.mono (c_insertMid l x g i ex bv e4 hb hl (by omega) w e3 hv (fun e => hne g rfl e.symm)) (fun u w' ⟨a', c', M, h1, h0, h2, h4, h3⟩ => ⟨a', c', M, h1, h0, h2, fun k hk => (h4 k hk).elim (fun e => by rw [e]; exact e2) (fun e => Nat.le_trans hbase e), h3.mono fun k _ e => by rw [e]; rfl⟩)
theorem half_conv {n : Nat} (h : n ≤ 2000000) : IntKind.i64.wrap ((IntKind.u64.wrap (n : Int)).fdiv (2 ^ min (Int.toNat 1) IntKind.u64.bits)) = ((n / 2 : Nat) : Int) := by
  have e : (2 : Int) ^ min (Int.toNat 1) IntKind.u64.bits = 2 := rfl
  rw [wrap_u64 (by omega), e, Int.fdiv_eq_ediv_of_nonneg _ (by decide), wrap_i64 (by omega)]
  omega
/-- where a row is parted by a test that fails from some place on -/
theorem c_bsf (g : FuncId) (hg : calleeOK Try.prog g = true) (key : Int) (cf : It → Int) (hn : ∀ x w', FC Try.prog g [x.val, .int .i64 key] w' (Val (.int .i64 (cf x)) w')) (l : List It) (hmono : ∀ (i j : Nat) (x y : It), i ≤ j → l[i]? = some x → l[j]? = some y → cf y < 0 → cf x < 0) (a : Option Addr) (c m : Nat) (hm : m = l.length) (w : World) (hl : Sl w a 2 (l.map It.cells)) (hb : l.length ≤ 1000000) :
    FC Try.prog 71 [.slice a m c, .int .i64 key, .func (.func g) #[] #[]] w (fun u w' => Sub w w' ∧ ∃ n : Nat, n ≤ l.length ∧ u = .tuple #[.int .i64 (n : Int), .bool (pB (∃ x, l[n]? = some x ∧ cf x = 0))] ∧ (∀ k x, k < n → l[k]? = some x → cf x < 0) ∧ ∀ k x, n ≤ k → l[k]? = some x → ¬ cf x < 0) := by
  subst hm
  refine FC.intro Try.func71 rfl Try.ntmps71 rfl ?_
  have S := Sub.refl w
  refine RC.seq ?_
  refine RC.region rfl ?_
  refine RL.ev (.assign rfl) rfl rfl ?_
  refine RL.ev (.assign rfl) rfl rfl ?_
  refine RL.nil (RC.back ?_)
  refine RC.seq ?_
  refine RC.region rfl ?_
  refine RL.ev (.move rfl) rfl rfl ?_
  refine RL.ev (.len sl22 rfl) rfl rfl ?_
  refine RL.ev (.assign rfl) rfl rfl ?_
  refine RL.nil (RC.back ?_)
  refine RC.seq ?_
  refine RC.region rfl ?_
  refine RL.ev (.move rfl) rfl rfl ?_
  refine RL.ev (.assign rfl) rfl rfl ?_
  refine RL.ev (.assign rfl) rfl rfl ?_
  refine RL.nil (RC.back ?_)
  refine RC.seq ?_
  refine RC.block ?_
  refine RC.loop (α := Nat × Nat) (fun x => [(0, .slice a l.length c), (1, .int .i64 key), (2, .func (.func g) #[] #[]), (8, .int .i64 (l.length : Int)), (9, .int .i64 (x.1 : Int)), (10, .int .i64 (x.2 : Int))]) (fun x w1 => (x.1 ≤ x.2 ∧ x.2 ≤ l.length ∧ (∀ k z, k < x.1 → l[k]? = some z → cf z < 0) ∧ ∀ k z, x.2 ≤ k → l[k]? = some z → ¬ cf z < 0) ∧ Sub w w1) (fun x => x.2 - x.1) (0, l.length) (keep_of (by repeat (first | exact trivial | refine And.intro rfl ?_))) (⟨⟨Nat.zero_le _, Nat.le_refl _, fun k z h _ => absurd h (Nat.not_lt_zero _), fun k z h e => absurd (lt_of_get e) (Nat.not_lt.2 h)⟩, S⟩) (fun x w1 hJ => ?_)
  obtain ⟨i, j⟩ := x; obtain ⟨⟨hij, hj, hp1, hp2⟩, S⟩ := hJ; simp only [] at hij hj hp1 hp2
  refine RC.seq ?_
  refine RC.seq ?_
  refine RC.region rfl ?_
  refine RL.ev (.move rfl) rfl rfl ?_
  refine RL.ev (.move rfl) rfl rfl ?_
  refine RL.ev (.bin rfl rfl rfl) rfl rfl ?_
  refine RL.nil (RC.back ?_)
  refine RC.cond_dec rfl (fun h2 => ?_) (fun h2 => ?_)
  ·
    have h17 : i < j := (by omega)
    obtain ⟨x, hx⟩ := getSome (l := l) (i := (i + j) / 2) (by omega)
    refine RC.skip (RC.back ?_)
    refine RC.block ?_
    refine RC.seq ?_
    refine RC.region rfl ?_
    refine RL.ev (.move rfl) rfl rfl ?_
    refine RL.ev (.move rfl) rfl rfl ?_
    refine RL.ev (.as (.bin rfl rfl rfl) (wi64 (y := ((i + j : Nat) : Int)) (by omega) (by omega))) rfl rfl ?_
    refine RL.ev (.conv i3 i109 rfl) rfl rfl ?_
    refine RL.ev (.shr rfl rfl (by decide)) rfl rfl ?_
    refine RL.ev (.as (v' := .int .i64 (((i + j) / 2 : Nat) : Int)) (.conv i109 i3 rfl) (by rw [half_conv (by omega)])) rfl rfl ?_
    refine RL.ev (.assign rfl) rfl rfl ?_
    refine RL.nil (RC.back ?_)
    refine RC.seq ?_
    refine RC.region rfl ?_
    refine RL.ev (.move rfl) rfl rfl ?_
    refine RL.ev (.move rfl) rfl rfl ?_
    refine RL.ev (.move rfl) rfl rfl ?_
    refine RL.ev (.indexS sl22 rfl rfl (by omega) (hl.is (i := 0) (by simp only [List.length_map, List.length_cons, List.length_nil]; omega))) rfl rfl ?_
    refine RL.ev (.loadR ([.int .i64 x.k, .int .i64 x.v]) sh45 rfl ((hl.sub S).rowAt (enc := It.cells) (i := (i + j) / 2) hx) rfl) rfl rfl ?_
    refine RL.ev (.move rfl) rfl rfl ?_
    refine RL.callv rfl rfl (us := []) (cs := []) hg (hn x w1) rfl rfl ?_
    rintro _ w3 ⟨rfl, s4⟩
    have S := S.trans s4
    refine RL.ev (.bin rfl rfl rfl) rfl rfl ?_
    refine RL.nil (RC.back ?_)
    refine RC.cond_dec rfl (fun h5 => ?_) (fun h5 => ?_)
    ·
      have h31 : cf x < 0 := h5
      refine RC.region rfl ?_
      refine RL.ev (.move rfl) rfl rfl ?_
      refine RL.ev (.as (.bin rfl rfl rfl) (wi64 (y := (((i + j) / 2 + 1 : Nat) : Int)) (by omega) (by omega))) rfl rfl ?_
      refine RL.ev (.assign rfl) rfl rfl ?_
      exact RL.nil (fun a ka => ⟨((i + j) / 2 + 1, j), ⟨⟨by omega, hj, fun k z hk hz => hmono k _ z x (by omega) hz hx h31, hp2⟩, S⟩, by omega, ka.keep (keep_of (by repeat (first | exact trivial | refine And.intro rfl ?_)))⟩)
    ·
      have h31 : ¬ cf x < 0 := h5
      refine RC.region rfl ?_
      refine RL.ev (.move rfl) rfl rfl ?_
      refine RL.ev (.assign rfl) rfl rfl ?_
      exact RL.nil (fun a ka => ⟨(i, (i + j) / 2), ⟨⟨by omega, by omega, hp1, fun k z hk hz hlt => h31 (hmono _ k x z hk hx hz hlt)⟩, S⟩, by omega, ka.keep (keep_of (by repeat (first | exact trivial | refine And.intro rfl ?_)))⟩)
  ·
    have h17 : i = j := (by omega)
    subst h17
    refine RC.exit rfl (RC.back ?_)
    refine RC.seq ?_
    refine RC.region rfl ?_
    refine RL.ev (.move rfl) rfl rfl ?_
    refine RL.ev (.move rfl) rfl rfl ?_
    refine RL.ev (.move rfl) rfl rfl ?_
    refine RL.ev (.bin rfl rfl rfl) rfl rfl ?_
    refine RL.ev (.move rfl) rfl rfl ?_
    refine RL.split 39 rfl (fun h6 => ?_) (fun h6 => ?_)
    ·
      have h39 : i < l.length := (by omega)
      obtain ⟨y, hy⟩ := getSome (l := l) (i := i) h39
      refine RL.ev (.move rfl) rfl rfl ?_
      refine RL.ev (.move rfl) rfl rfl ?_
      refine RL.ev (.move rfl) rfl rfl ?_
      refine RL.ev (.indexS sl22 rfl rfl (by omega) (hl.is (i := 0) (by simp only [List.length_map, List.length_cons, List.length_nil]; omega))) rfl rfl ?_
      refine RL.ev (.loadR ([.int .i64 y.k, .int .i64 y.v]) sh45 rfl ((hl.sub S).rowAt (enc := It.cells) (i := i) hy) rfl) rfl rfl ?_
      refine RL.ev (.move rfl) rfl rfl ?_
      refine RL.callv rfl rfl (us := []) (cs := []) hg (hn y w1) rfl rfl ?_
      rintro _ w7 ⟨rfl, s8⟩
      have S := S.trans s8
      refine RL.ev (.bin rfl rfl rfl) rfl rfl ?_
      refine RL.ev (.pick_t rfl rfl) rfl rfl ?_
      refine RL.ev (.assign rfl) rfl rfl ?_
      refine RL.ev (.assign rfl) rfl rfl ?_
      refine RL.nil (RC.back ?_)
      refine RC.done (rs := [.tmp 6, .tmp 7]) (vs := [_, _]) rfl rfl ⟨rfl, rfl, trivial⟩ ?_
      -- end 1
      refine ⟨S, i, by omega, ?_, hp1, hp2⟩
      rw [show pB (∃ x, l[i]? = some x ∧ cf x = 0) = decide (cf y = 0) from by rw [Bool.eq_iff_iff, pB_iff, decide_eq_true_iff]; exact ⟨fun ⟨x, h1, h2⟩ => by rw [hy] at h1; cases h1; exact h2, fun h => ⟨y, hy, h⟩⟩]
      rfl
    ·
      have h39 : i = l.length := (by omega)
      refine RL.off rfl rfl ?_
      refine RL.off rfl rfl ?_
      refine RL.off rfl rfl ?_
      refine RL.off rfl rfl ?_
      refine RL.off rfl rfl ?_
      refine RL.off rfl rfl ?_
      refine RL.off rfl rfl ?_
      refine RL.off rfl rfl ?_
      refine RL.ev (.pick_f rfl rfl) rfl rfl ?_
      refine RL.ev (.assign rfl) rfl rfl ?_
      refine RL.ev (.assign rfl) rfl rfl ?_
      refine RL.nil (RC.back ?_)
      refine RC.done (rs := [.tmp 6, .tmp 7]) (vs := [_, _]) rfl rfl ⟨rfl, rfl, trivial⟩ ?_
      -- end 2
      refine ⟨S, i, by omega, ?_, hp1, hp2⟩
      rw [pB_no (fun ⟨x, h1, _⟩ => absurd (lt_of_get h1) (by omega))]
      rfl
/-- where a row is parted by a test that fails from some place on -/
theorem c_bsf2 (g : FuncId) (hg : calleeOK Try.prog g = true) (key : It) (cf : It → Int) (hn : ∀ x w', FC Try.prog g [x.val, key.val] w' (Val (.int .i64 (cf x)) w')) (l : List It) (hmono : ∀ (i j : Nat) (x y : It), i ≤ j → l[i]? = some x → l[j]? = some y → cf y < 0 → cf x < 0) (a : Option Addr) (c m : Nat) (hm : m = l.length) (w : World) (hl : Sl w a 2 (l.map It.cells)) (hb : l.length ≤ 1000000) :
    FC Try.prog 79 [.slice a m c, key.val, .func (.func g) #[] #[]] w (fun u w' => Sub w w' ∧ ∃ n : Nat, n ≤ l.length ∧ u = .tuple #[.int .i64 (n : Int), .bool (pB (∃ x, l[n]? = some x ∧ cf x = 0))] ∧ (∀ k x, k < n → l[k]? = some x → cf x < 0) ∧ ∀ k x, n ≤ k → l[k]? = some x → ¬ cf x < 0) := by
  subst hm
  refine FC.intro Try.func79 rfl Try.ntmps79 rfl ?_
  have S := Sub.refl w
  refine RC.seq ?_
  refine RC.region rfl ?_
  refine RL.box rfl rfl rfl (fun b_4 w_4 e_4 z_4 hb_4 s_4 => ?_)
  have ge_4 := S.le e_4
  have S := S.trans s_4
  have hb_4 : Has w_4 b_4 ([.int .i64 key.k, .int .i64 key.v]) _ := hb_4
  refine RL.ev (.assign rfl) rfl rfl ?_
  refine RL.ev (.assign rfl) rfl rfl ?_
  refine RL.nil (RC.back ?_)
  refine RC.seq ?_
  refine RC.region rfl ?_
  refine RL.ev (.move rfl) rfl rfl ?_
  refine RL.ev (.len sl22 rfl) rfl rfl ?_
  refine RL.ev (.assign rfl) rfl rfl ?_
  refine RL.nil (RC.back ?_)
  refine RC.seq ?_
  refine RC.region rfl ?_
  refine RL.ev (.move rfl) rfl rfl ?_
  refine RL.ev (.assign rfl) rfl rfl ?_
  refine RL.ev (.assign rfl) rfl rfl ?_
  refine RL.nil (RC.back ?_)
  refine RC.seq ?_
  refine RC.block ?_
  refine RC.loop (α := Nat × Nat) (fun x => [(0, .slice a l.length c), (2, .func (.func g) #[] #[]), (4, .pointer (some ⟨b_4, 0, none⟩)), (8, .int .i64 (l.length : Int)), (9, .int .i64 (x.1 : Int)), (10, .int .i64 (x.2 : Int))]) (fun x w1 => (x.1 ≤ x.2 ∧ x.2 ≤ l.length ∧ (∀ k z, k < x.1 → l[k]? = some z → cf z < 0) ∧ ∀ k z, x.2 ≤ k → l[k]? = some z → ¬ cf z < 0) ∧ Has w1 b_4 [.int .i64 key.k, .int .i64 key.v] 45 ∧ Sub w w1) (fun x => x.2 - x.1) (0, l.length) (keep_of (by repeat (first | exact trivial | refine And.intro rfl ?_))) (⟨⟨Nat.zero_le _, Nat.le_refl _, fun k z h _ => absurd h (Nat.not_lt_zero _), fun k z h e => absurd (lt_of_get e) (Nat.not_lt.2 h)⟩, hb_4, S⟩) (fun x w1 hJ => ?_)
  obtain ⟨i, j⟩ := x; obtain ⟨⟨hij, hj, hp1, hp2⟩, hb_4, S⟩ := hJ; simp only [] at hij hj hp1 hp2
  refine RC.seq ?_
  refine RC.seq ?_
  refine RC.region rfl ?_
  refine RL.ev (.move rfl) rfl rfl ?_
  refine RL.ev (.move rfl) rfl rfl ?_
  refine RL.ev (.bin rfl rfl rfl) rfl rfl ?_
  refine RL.nil (RC.back ?_)
  refine RC.cond_dec rfl (fun h2 => ?_) (fun h2 => ?_)
  ·
    have h17 : i < j := (by omega)
    obtain ⟨x, hx⟩ := getSome (l := l) (i := (i + j) / 2) (by omega)
    refine RC.skip (RC.back ?_)
    refine RC.block ?_
    refine RC.seq ?_
    refine RC.region rfl ?_
    refine RL.ev (.move rfl) rfl rfl ?_
    refine RL.ev (.move rfl) rfl rfl ?_
    refine RL.ev (.as (.bin rfl rfl rfl) (wi64 (y := ((i + j : Nat) : Int)) (by omega) (by omega))) rfl rfl ?_
    refine RL.ev (.conv i3 i109 rfl) rfl rfl ?_
    refine RL.ev (.shr rfl rfl (by decide)) rfl rfl ?_
    refine RL.ev (.as (v' := .int .i64 (((i + j) / 2 : Nat) : Int)) (.conv i109 i3 rfl) (by rw [half_conv (by omega)])) rfl rfl ?_
    refine RL.ev (.assign rfl) rfl rfl ?_
    refine RL.nil (RC.back ?_)
    refine RC.seq ?_
    refine RC.draw rfl mxo (by kernel_rfl) ?_
    refine RQ.ev (.move rfl) rfl rfl ?_
    refine RQ.ev (.move rfl) rfl rfl ?_
    refine RQ.ev (.move rfl) rfl rfl ?_
    refine RQ.ev (.indexS sl22 rfl rfl (by omega) (hl.is (i := 0) (by simp only [List.length_map, List.length_cons, List.length_nil]; omega))) rfl rfl ?_
    refine RQ.ev (.loadR ([.int .i64 x.k, .int .i64 x.v]) sh45 rfl ((hl.sub S).rowAt (enc := It.cells) (i := (i + j) / 2) hx) rfl) rfl rfl ?_
    refine RQ.ev (.loadR ([.int .i64 key.k, .int .i64 key.v]) sh45 rfl hb_4.row rfl) rfl rfl ?_
    refine RQ.callv rfl rfl (us := []) (cs := []) hg (fun w' s' => hn x w') rfl rfl ?_
    refine RQ.ev (.bin rfl rfl rfl) rfl rfl ?_
    refine RQ.nil (fun w3 s4 => RC.back ?_)
    have S := S.trans s4
    have hb_4 := hb_4.sub s4
    refine RC.cond_dec rfl (fun h5 => ?_) (fun h5 => ?_)
    ·
      have h31 : cf x < 0 := h5
      refine RC.region rfl ?_
      refine RL.ev (.move rfl) rfl rfl ?_
      refine RL.ev (.as (.bin rfl rfl rfl) (wi64 (y := (((i + j) / 2 + 1 : Nat) : Int)) (by omega) (by omega))) rfl rfl ?_
      refine RL.ev (.assign rfl) rfl rfl ?_
      exact RL.nil (fun a ka => ⟨((i + j) / 2 + 1, j), ⟨⟨by omega, hj, fun k z hk hz => hmono k _ z x (by omega) hz hx h31, hp2⟩, hb_4, S⟩, by omega, ka.keep (keep_of (by repeat (first | exact trivial | refine And.intro rfl ?_)))⟩)
    ·
      have h31 : ¬ cf x < 0 := h5
      refine RC.region rfl ?_
      refine RL.ev (.move rfl) rfl rfl ?_
      refine RL.ev (.assign rfl) rfl rfl ?_
      exact RL.nil (fun a ka => ⟨(i, (i + j) / 2), ⟨⟨by omega, by omega, hp1, fun k z hk hz hlt => h31 (hmono _ k x z hk hx hz hlt)⟩, hb_4, S⟩, by omega, ka.keep (keep_of (by repeat (first | exact trivial | refine And.intro rfl ?_)))⟩)
  ·
    have h17 : i = j := (by omega)
    subst h17
    refine RC.exit rfl (RC.back ?_)
    refine RC.seq ?_
    refine RC.draw rfl mxo (by kernel_rfl) ?_
    refine RQ.ev (.move rfl) rfl rfl ?_
    refine RQ.ev (.move rfl) rfl rfl ?_
    refine RQ.ev (.move rfl) rfl rfl ?_
    refine RQ.ev (.bin rfl rfl rfl) rfl rfl ?_
    refine RQ.ev (.move rfl) rfl rfl ?_
    refine RQ.split 39 rfl (fun h6 => ?_) (fun h6 => ?_)
    ·
      have h39 : i < l.length := (by omega)
      obtain ⟨y, hy⟩ := getSome (l := l) (i := i) h39
      refine RQ.ev (.move rfl) rfl rfl ?_
      refine RQ.ev (.move rfl) rfl rfl ?_
      refine RQ.ev (.move rfl) rfl rfl ?_
      refine RQ.ev (.indexS sl22 rfl rfl (by omega) (hl.is (i := 0) (by simp only [List.length_map, List.length_cons, List.length_nil]; omega))) rfl rfl ?_
      refine RQ.ev (.loadR ([.int .i64 y.k, .int .i64 y.v]) sh45 rfl ((hl.sub S).rowAt (enc := It.cells) (i := i) hy) rfl) rfl rfl ?_
      refine RQ.ev (.loadR ([.int .i64 key.k, .int .i64 key.v]) sh45 rfl hb_4.row rfl) rfl rfl ?_
      refine RQ.callv rfl rfl (us := []) (cs := []) hg (fun w' s' => hn y w') rfl rfl ?_
      refine RQ.ev (.bin rfl rfl rfl) rfl rfl ?_
      refine RQ.ev (.pick_t rfl rfl) rfl rfl ?_
      refine RQ.ev (.assign rfl) rfl rfl ?_
      refine RQ.ev (.assign rfl) rfl rfl ?_
      refine RQ.nil (fun w7 s8 => RC.back ?_)
      have S := S.trans s8
      have hb_4 := hb_4.sub s8
      refine RC.done (rs := [.tmp 6, .tmp 7]) (vs := [_, _]) rfl rfl ⟨rfl, rfl, trivial⟩ ?_
      -- end 1
      refine ⟨S, i, by omega, ?_, hp1, hp2⟩
      rw [show pB (∃ x, l[i]? = some x ∧ cf x = 0) = decide (cf y = 0) from by rw [Bool.eq_iff_iff, pB_iff, decide_eq_true_iff]; exact ⟨fun ⟨x, h1, h2⟩ => by rw [hy] at h1; cases h1; exact h2, fun h => ⟨y, hy, h⟩⟩]
      rfl
    ·
      have h39 : i = l.length := (by omega)
      refine RQ.off rfl rfl ?_
      refine RQ.off rfl rfl ?_
      refine RQ.off rfl rfl ?_
      refine RQ.off rfl rfl ?_
      refine RQ.off rfl rfl ?_
      refine RQ.off rfl rfl ?_
      refine RQ.off rfl rfl ?_
      refine RQ.off rfl rfl ?_
      refine RQ.ev (.pick_f rfl rfl) rfl rfl ?_
      refine RQ.ev (.assign rfl) rfl rfl ?_
      refine RQ.ev (.assign rfl) rfl rfl ?_
      refine RQ.nil (fun w9 s10 => RC.back ?_)
      have S := S.trans s10
      have hb_4 := hb_4.sub s10
      refine RC.done (rs := [.tmp 6, .tmp 7]) (vs := [_, _]) rfl rfl ⟨rfl, rfl, trivial⟩ ?_
      -- end 2
      refine ⟨S, i, by omega, ?_, hp1, hp2⟩
      rw [pB_no (fun ⟨x, h1, _⟩ => absurd (lt_of_get h1) (by omega))]
      rfl
theorem c_equal (l m : List It) (a b : Option Addr) (c d n k : Nat) (hn : n = l.length) (hk : k = m.length) (w : World) (hl : Sl w a 2 (l.map It.cells)) (hm : Sl w b 2 (m.map It.cells)) (hb : l.length ≤ 1000000) :
    FC Try.prog 45 [.slice a n c, .slice b k d] w (Val (.bool (decide (l = m))) w) := by
  subst hn hk
  refine FC.intro Try.func45 rfl Try.ntmps45 rfl ?_
  have S := Sub.refl w
  refine RC.seq ?_
  refine RC.region rfl ?_
  refine RL.ev (.assign rfl) rfl rfl ?_
  refine RL.nil (RC.back ?_)
  refine RC.seq ?_
  refine RC.seq ?_
  refine RC.region rfl ?_
  refine RL.ev (.move rfl) rfl rfl ?_
  refine RL.ev (.len sl22 rfl) rfl rfl ?_
  refine RL.ev (.move rfl) rfl rfl ?_
  refine RL.ev (.len sl22 rfl) rfl rfl ?_
  refine RL.ev (.bin rfl rfl rfl) rfl rfl ?_
  refine RL.nil (RC.back ?_)
  refine RC.cond_dec rfl (fun h1 => ?_) (fun h1 => ?_)
  ·
    have hno : ¬ l = m := (fun e => h1 (by rw [e]))
    refine RC.seq ?_
    refine RC.region rfl ?_
    refine RL.ev (.assign rfl) rfl rfl ?_
    refine RL.nil (RC.back ?_)
    refine RC.done (rs := [.tmp 4]) (vs := [_]) rfl rfl ⟨rfl, trivial⟩ ?_
    -- end 1
    rw [decide_eq_false hno]
    exact ⟨rfl, S⟩
  ·
    have h10 : l.length = m.length := (by omega)
    refine RC.skip (RC.back ?_)
    refine RC.seq ?_
    refine RC.seq ?_
    refine RC.region rfl ?_
    refine RL.ev (.move rfl) rfl rfl ?_
    refine RL.ev (.len sl22 rfl) rfl rfl ?_
    refine RL.ev (.move rfl) rfl rfl ?_
    refine RL.nil (RC.back ?_)
    refine RC.block ?_
    refine RC.loop (α := Nat) (fun i => [(0, .slice a l.length c), (1, .slice b m.length d), (12, .int .i64 (l.length : Int)), (13, .int .i64 (i : Int))]) (fun i w2 => (i ≤ l.length ∧ l.take i = m.take i) ∧ Sub w w2) (fun i => l.length - i) 0 (keep_of (by repeat (first | exact trivial | refine And.intro rfl ?_))) (⟨⟨Nat.zero_le _, rfl⟩, S⟩) (fun i w2 hJ => ?_)
    obtain ⟨⟨hi, hp⟩, S⟩ := hJ
    refine RC.seq ?_
    refine RC.region rfl ?_
    refine RL.ev (.bin rfl rfl rfl) rfl rfl ?_
    refine RL.nil (RC.back ?_)
    refine RC.seq ?_
    refine RC.cond_dec rfl (fun h3 => ?_) (fun h3 => ?_)
    ·
      obtain ⟨x, hx⟩ := getSome (l := l) (i := i) (by omega)
      obtain ⟨y, hy⟩ := getSome (l := m) (i := i) (by omega)
      refine RC.skip (RC.back ?_)
      refine RC.seq ?_
      refine RC.block ?_
      refine RC.seq ?_
      refine RC.region rfl ?_
      refine RL.ev (.move rfl) rfl rfl ?_
      refine RL.ev (.assign rfl) rfl rfl ?_
      refine RL.nil (RC.back ?_)
      refine RC.seq ?_
      refine RC.draw rfl mxo (by kernel_rfl) ?_
      refine RQ.ev (.move rfl) rfl rfl ?_
      refine RQ.ev (.move rfl) rfl rfl ?_
      refine RQ.ev (.indexS sl22 rfl rfl (by omega) (hl.is (i := 0) (by simp only [List.length_map, List.length_cons, List.length_nil]; omega))) rfl rfl ?_
      refine RQ.ev (.loadR (x.cells) sh45 rfl ((hl.sub S).rowAt (enc := It.cells) (i := i) hx) rfl) rfl rfl ?_
      refine RQ.ev (.move rfl) rfl rfl ?_
      refine RQ.ev (.move rfl) rfl rfl ?_
      refine RQ.ev (.indexS sl22 rfl rfl (by omega) (hm.is (i := 0) (by simp only [List.length_map, List.length_cons, List.length_nil]; omega))) rfl rfl ?_
      refine RQ.ev (.loadR (y.cells) sh45 rfl ((hm.sub S).rowAt (enc := It.cells) (i := i) hy) rfl) rfl rfl ?_
      refine RQ.ev (.neS (xs := x.cells) (ys := y.cells) fk45 eg45 sh45 rfl rfl rfl rfl rfl) rfl rfl ?_
      refine RQ.nil (fun w4 s5 => RC.back ?_)
      have S := S.trans s5
      refine RC.cond rfl (fun h6 => ?_) (fun h6 => ?_)
      ·
        have hne : ¬ l = m := (fun e => by rw [← e, hx] at hy; cases hy; have q := h6; rw [it_eqL] at q; simp at q)
        refine RC.seq ?_
        refine RC.region rfl ?_
        refine RL.ev (.assign rfl) rfl rfl ?_
        refine RL.nil (RC.back ?_)
        refine RC.done (rs := [.tmp 4]) (vs := [_]) rfl rfl ⟨rfl, trivial⟩ ?_
        -- end 2
        rw [decide_eq_false hne]
        exact ⟨rfl, S⟩
      ·
        have hxy : x = y := (by have q := h6; rw [it_eqL] at q; simpa using q)
        refine RC.skip (RC.back ?_)
        refine RC.region rfl ?_
        refine RL.ev (.as (.bin rfl rfl rfl) (wi64 (y := ((i + 1 : Nat) : Int)) (by omega) (by omega))) rfl rfl ?_
        refine RL.ev (.move rfl) rfl rfl ?_
        exact RL.nil (fun a ka => ⟨i + 1, ⟨⟨by omega, by rw [List.take_add_one, List.take_add_one, hp, hx, hy, hxy]⟩, S⟩, by omega, ka.keep (keep_of (by repeat (first | exact trivial | refine And.intro rfl ?_)))⟩)
    ·
      have hyes : l = m := (by rw [show i = l.length by omega, List.take_length] at hp; rw [hp, h10, List.take_length])
      refine RC.exit rfl (RC.back ?_)
      refine RC.seq ?_
      refine RC.region rfl ?_
      refine RL.ev (.assign rfl) rfl rfl ?_
      refine RL.nil (RC.back ?_)
      refine RC.done (rs := [.tmp 4]) (vs := [_]) rfl rfl ⟨rfl, trivial⟩ ?_
      -- end 3
      rw [decide_eq_true hyes]
      exact ⟨rfl, S⟩
theorem c_equal11 (l m : List Int) (a b : Option Addr) (c d n k : Nat) (hn : n = l.length) (hk : k = m.length) (w : World) (hl : Sl w a 1 (l.map fun x => [i6 x])) (hm : Sl w b 1 (m.map fun x => [i6 x])) (hb : l.length ≤ 1000000) :
    FC Try.prog 46 [.slice a n c, .slice b k d] w (Val (.bool (decide (l = m))) w) := by
  subst hn hk
  refine FC.intro Try.func46 rfl Try.ntmps46 rfl ?_
  have S := Sub.refl w
  refine RC.seq ?_
  refine RC.region rfl ?_
  refine RL.ev (.assign rfl) rfl rfl ?_
  refine RL.nil (RC.back ?_)
  refine RC.seq ?_
  refine RC.seq ?_
  refine RC.region rfl ?_
  refine RL.ev (.move rfl) rfl rfl ?_
  refine RL.ev (.len sl23 rfl) rfl rfl ?_
  refine RL.ev (.move rfl) rfl rfl ?_
  refine RL.ev (.len sl23 rfl) rfl rfl ?_
  refine RL.ev (.bin rfl rfl rfl) rfl rfl ?_
  refine RL.nil (RC.back ?_)
  refine RC.cond_dec rfl (fun h1 => ?_) (fun h1 => ?_)
  ·
    have hno : ¬ l = m := (fun e => h1 (by rw [e]))
    refine RC.seq ?_
    refine RC.region rfl ?_
    refine RL.ev (.assign rfl) rfl rfl ?_
    refine RL.nil (RC.back ?_)
    refine RC.done (rs := [.tmp 4]) (vs := [_]) rfl rfl ⟨rfl, trivial⟩ ?_
    -- end 1
    rw [decide_eq_false hno]
    exact ⟨rfl, S⟩
  ·
    have h10 : l.length = m.length := (by omega)
    refine RC.skip (RC.back ?_)
    refine RC.seq ?_
    refine RC.seq ?_
    refine RC.region rfl ?_
    refine RL.ev (.move rfl) rfl rfl ?_
    refine RL.ev (.len sl23 rfl) rfl rfl ?_
    refine RL.ev (.move rfl) rfl rfl ?_
    refine RL.nil (RC.back ?_)
    refine RC.block ?_
    refine RC.loop (α := Nat) (fun i => [(0, .slice a l.length c), (1, .slice b m.length d), (12, .int .i64 (l.length : Int)), (13, .int .i64 (i : Int))]) (fun i w2 => (i ≤ l.length ∧ l.take i = m.take i) ∧ Sub w w2) (fun i => l.length - i) 0 (keep_of (by repeat (first | exact trivial | refine And.intro rfl ?_))) (⟨⟨Nat.zero_le _, rfl⟩, S⟩) (fun i w2 hJ => ?_)
    obtain ⟨⟨hi, hp⟩, S⟩ := hJ
    refine RC.seq ?_
    refine RC.region rfl ?_
    refine RL.ev (.bin rfl rfl rfl) rfl rfl ?_
    refine RL.nil (RC.back ?_)
    refine RC.seq ?_
    refine RC.cond_dec rfl (fun h3 => ?_) (fun h3 => ?_)
    ·
      obtain ⟨x, hx⟩ := getSome (l := l) (i := i) (by omega)
      obtain ⟨y, hy⟩ := getSome (l := m) (i := i) (by omega)
      refine RC.skip (RC.back ?_)
      refine RC.seq ?_
      refine RC.block ?_
      refine RC.seq ?_
      refine RC.region rfl ?_
      refine RL.ev (.move rfl) rfl rfl ?_
      refine RL.ev (.assign rfl) rfl rfl ?_
      refine RL.nil (RC.back ?_)
      refine RC.seq ?_
      refine RC.draw rfl mxo (by kernel_rfl) ?_
      refine RQ.ev (.move rfl) rfl rfl ?_
      refine RQ.ev (.move rfl) rfl rfl ?_
      refine RQ.ev (.indexS sl23 rfl rfl (by omega) (hl.is (i := 0) (by simp only [List.length_map, List.length_cons, List.length_nil]; omega))) rfl rfl ?_
      refine RQ.ev (.load1 sh2 rfl ((hl.sub S).one (enc := i6) (i := i) hx)) rfl rfl ?_
      refine RQ.ev (.move rfl) rfl rfl ?_
      refine RQ.ev (.move rfl) rfl rfl ?_
      refine RQ.ev (.indexS sl23 rfl rfl (by omega) (hm.is (i := 0) (by simp only [List.length_map, List.length_cons, List.length_nil]; omega))) rfl rfl ?_
      refine RQ.ev (.load1 sh2 rfl ((hm.sub S).one (enc := i6) (i := i) hy)) rfl rfl ?_
      refine RQ.ev (.bin rfl rfl rfl) rfl rfl ?_
      refine RQ.nil (fun w4 s5 => RC.back ?_)
      have S := S.trans s5
      refine RC.cond_dec rfl (fun h6 => ?_) (fun h6 => ?_)
      ·
        have hne : ¬ l = m := (fun e => by rw [← e, hx] at hy; cases hy; exact h6 rfl)
        refine RC.seq ?_
        refine RC.region rfl ?_
        refine RL.ev (.assign rfl) rfl rfl ?_
        refine RL.nil (RC.back ?_)
        refine RC.done (rs := [.tmp 4]) (vs := [_]) rfl rfl ⟨rfl, trivial⟩ ?_
        -- end 2
        rw [decide_eq_false hne]
        exact ⟨rfl, S⟩
      ·
        have hxy : x = y := Decidable.not_not.1 h6
        refine RC.skip (RC.back ?_)
        refine RC.region rfl ?_
        refine RL.ev (.as (.bin rfl rfl rfl) (wi64 (y := ((i + 1 : Nat) : Int)) (by omega) (by omega))) rfl rfl ?_
        refine RL.ev (.move rfl) rfl rfl ?_
        exact RL.nil (fun a ka => ⟨i + 1, ⟨⟨by omega, by rw [List.take_add_one, List.take_add_one, hp, hx, hy, hxy]⟩, S⟩, by omega, ka.keep (keep_of (by repeat (first | exact trivial | refine And.intro rfl ?_)))⟩)
    ·
      have hyes : l = m := (by rw [show i = l.length by omega, List.take_length] at hp; rw [hp, h10, List.take_length])
      refine RC.exit rfl (RC.back ?_)
      refine RC.seq ?_
      refine RC.region rfl ?_
      refine RL.ev (.assign rfl) rfl rfl ?_
      refine RL.nil (RC.back ?_)
      refine RC.done (rs := [.tmp 4]) (vs := [_]) rfl rfl ⟨rfl, trivial⟩ ?_
      -- end 3
      rw [decide_eq_true hyes]
      exact ⟨rfl, S⟩
end Go.Proofs.Ytjafbffehmombaa
