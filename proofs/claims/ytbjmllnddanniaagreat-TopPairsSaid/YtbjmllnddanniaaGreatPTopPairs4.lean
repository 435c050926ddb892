/-
  What the law TopPairs leans on, part 4.
-/
import Derived.Test.YtbjmllnddanniaaGreatPTopPairs3
set_option linter.unusedVariables false
set_option linter.unusedSimpArgs false
set_option maxRecDepth 4000
namespace Go.Proofs.YtbjmllnddanniaaGreat
open Go Go.XL
noncomputable def pRB (p : Prop) : Bool := @decide p (Classical.propDecidable p)
theorem pRB_iff (p : Prop) : pRB p = true ↔ p := by unfold pRB; exact @decide_eq_true_iff _ (Classical.propDecidable _)
theorem pRB_no {p : Prop} (h : ¬ p) : pRB p = false := by rw [Bool.eq_false_iff]; exact fun e => h ((pRB_iff p).1 e)
theorem pRB_yes {p : Prop} (h : p) : pRB p = true := (pRB_iff p).2 h
abbrev rC (x : Int) : List Value := [u6 x]
theorem it_rowsR {l : List Int} : ∀ r ∈ l.map rC, r.length = 1 := fun r hr => by obtain ⟨x, _, rfl⟩ := List.mem_map.1 hr; rfl
theorem Has.ftWR {w : World} {b : Nat} {cs : List Value} {e : TypeId} (h : Has w b cs e) : Ft (· = b) (fun u => Has u b cs e) w := ⟨fun k hk => hk ▸ h.lt, fun u a => h.step a (fun hn => hn rfl)⟩
theorem c_cloneR (l : List Int) (a : Option Addr) (c m : Nat) (hm : m = l.length) (w : World) (hl : Sl w a 1 (l.map rC)) (hb : l.length ≤ 1000000) :
  FC Tryz.prog 202 [.slice a m c] w (fun u w' => ∃ a' c', u = .slice a' l.length c' ∧ Ows w.heap.size w' 31 1 (.slice a' l.length c') (l.map rC) ∧ Sub w w') := by
 subst hm
 refine FC.intro Tryz.func202 rfl Tryz.ntmps202 rfl ?_
 have S := Sub.refl w
 refine RC.seq (RC.region rfl ?_);refine RL.asS rfl ?_;refine RL.nil (RC.back (RC.seq (RC.seq (RC.region rfl ?_))));refine RL.mvS rfl ?_;refine RL.eS (.eqNil sl73 rfl) ?_;refine RL.nil (RC.back ?_);refine RC.cond rfl (fun h1 => ?_) (fun h1 => ?_)
 ·
  have h4 := h1
  have hnil : l = [] := (by refine Classical.byContradiction fun e => ?_; have q := hl.some (by simpa using e); cases a <;> simp at h4 q)
  refine RC.seq (RC.region rfl ?_);refine RL.asS rfl ?_;refine RL.nil (RC.back ?_);refine RC.d1 2 rfl rfl rfl ?_
  subst hnil
  exact ⟨none, 0, rfl, Ows.nil _ _ _ _, S⟩
 ·
  have h4 := h1
  refine RC.skip (RC.back (RC.seq (RC.region rfl ?_)));refine RL.buildSlice0 sl73 rfl rfl (fun b_5 w_5 e_5 z_5 hb_5 s_5 => ?_);have S := S.trans s_5;refine RL.mvS rfl ?_;have sz_7 := S.size
  have ltb_5_7 := hb_5.lt
  refine RL.append2 (base := w.heap.size) (rows := []) (news := l.map rC) sl73 ze31 rfl rfl rfl rfl (.inl (Ows.lit0 hb_5 (by omega))) (hl.sub S) (by (try simp only [List.length_map]); first | done | rfl) (by intro r hr; obtain ⟨x, _, rfl⟩ := List.mem_map.1 hr; rfl) (by rw [List.all_eq_true]; intro r hr; obtain ⟨x, _, rfl⟩ := List.mem_map.1 hr; rfl) (by (try simp only [List.length_map, List.length_nil, List.length_append, List.length_cons]); omega) (by (try simp only [List.length_map, List.length_nil, List.length_append, List.length_cons]); omega) (by omega) rfl rfl (fun v_7 w_7 hc_7 ho_7 ag_7 ob_7 => ?_)
  have o7 := ho_7 (.inr (Ows.lit0 hb_5 (by omega)))
  have S := S.agrN ag_7 (fun k e => Nat.le_trans (by omega) e.2)
  obtain ⟨a_7, c_7, rfl, k_7⟩ := o7.form
  refine RL.asS rfl ?_;refine RL.nil (RC.back ?_);refine RC.d1 2 rfl rfl rfl ?_
  rw [List.nil_append, List.length_map] at o7
  exact ⟨_, _, by rw [List.nil_append, List.length_map]; rfl, o7, S⟩
theorem it_plainR (l : List Int) : (l.map rC).all (fun r => r.all plainV) = true := by rw [List.all_eq_true]; intro r hr; obtain ⟨x, _, rfl⟩ := List.mem_map.1 hr; rfl
theorem wh_slR {w : World} {g : Nat} {e : TypeId} {l : List Int} {ex : List (List Value)} (h : Has w g (l.map rC ++ ex).flatten e) : Sl w (some ⟨g, 0, none⟩) 1 (l.map rC) := Has.sl (extra := ex.flatten) (by rw [← List.flatten_append]; exact h) it_rowsR
theorem c_insertEndR (l : List Int) (x : Int) (base : Nat) (sa : Option Addr) (sc bv : Nat) (w : World) (ov : Ows base w 31 1 (.slice sa l.length sc) (l.map rC)) (hbase : base ≤ w.heap.size) (hb : l.length ≤ 1000000) (hv : Sl w (some ⟨bv, 0, none⟩) 1 ([x].map rC)) :
  FC Tryz.prog 208 [.slice sa l.length sc, .int .i64 (l.length : Int), .slice (some ⟨bv, 0, none⟩) 1 1] w (fun u w' => ∃ a' c' M, u = .slice a' (l.length + 1) c' ∧ l.length + 1 ≤ c' ∧ Ft M (fun u => Sl u a' 1 ((l ++ [x]).map rC)) w' ∧ (∀ k, M k → base ≤ k) ∧ Agr (fun k => ob (.slice sa l.length sc) = some k) w w') := by
 have G : Agr (fun k => ob (.slice sa l.length sc) = some k) w w := Agr.refl _ _
 refine FC.intro Tryz.func208 rfl Tryz.ntmps208 rfl ?_
 refine RC.seq (RC.region rfl ?_);refine RL.asS rfl ?_;refine RL.nil (RC.back (RC.seq (RC.region rfl ?_)));refine RL.mvS rfl ?_;refine RL.mvS rfl ?_;refine RL.eS (.sliceLo sl73 rfl rfl (by omega)) ?_;refine RL.nil (RC.back (RC.seq (RC.region rfl ?_)));refine RL.mvS rfl ?_;refine RL.eS (.len sl73 rfl) ?_;refine RL.asS rfl ?_;refine RL.nil (RC.back (RC.seq (RC.seq (RC.region rfl ?_))));refine RL.mvS rfl ?_;refine RL.eS (.bin rfl rfl rfl) ?_;refine RL.nil (RC.back ?_);refine RC.cond_dec rfl (fun h1 => ?_) (fun h1 => ?_)
 ·
  exact absurd h1 (by decide)
 ·
  refine RC.skip (RC.back (RC.seq (RC.region rfl ?_)));refine RL.mvS rfl ?_;refine RL.eS (.len sl73 rfl) ?_;refine RL.asS rfl ?_;refine RL.nil (RC.back (RC.seq (RC.seq (RC.region rfl ?_))));refine RL.mvS rfl ?_;refine RL.mvS rfl ?_;refine RL.eS (.bin rfl rfl rfl) ?_;refine RL.nil (RC.back ?_);refine RC.cond_dec rfl (fun h2 => ?_) (fun h2 => ?_)
  ·
   refine RC.seq (RC.region rfl ?_);refine RL.mvS rfl ?_;refine RL.mvS rfl ?_;have szG_25 := G.size;refine RL.append2 (base := base) (rows := l.map rC) (news := [x].map rC) sl73 ze31 rfl rfl rfl rfl (.inl ov) hv (by (try simp only [List.length_map]); first | done | rfl) (by intro r hr; obtain ⟨x, _, rfl⟩ := List.mem_map.1 hr; rfl) (by rw [List.all_eq_true]; intro r hr; obtain ⟨x, _, rfl⟩ := List.mem_map.1 hr; rfl) (by (try simp only [List.length_map, List.length_nil, List.length_append, List.length_cons]); omega) (by (try simp only [List.length_map, List.length_nil, List.length_append, List.length_cons]); omega) (by omega) rfl rfl (fun v_25 w_25 hc_25 ho_25 ag_25 ob_25 => ?_)
   have o25 := ho_25 (.inr ov)
   have G := G.trans (ag_25.mono fun k _ e => e.1)
   obtain ⟨a_25, c_25, rfl, k_25⟩ := o25.form
   refine RL.asS rfl ?_;refine RL.nil (RC.back ?_);refine RC.d1 6 rfl rfl rfl ?_
   rw [← List.map_append, List.length_map, List.length_append, List.length_singleton] at o25
   exact ⟨_, _, _, by rw [← List.map_append, List.length_map, List.length_append, List.length_singleton]; rfl, by have q := k_25; rw [List.length_append, List.length_map, List.length_map, List.length_singleton] at q; exact q, o25.ft.imp (fun u h => h.sl.1), fun k hk => (o25.ge k hk).1, G⟩
  ·
   exact absurd rfl h2
theorem ins_takeR {R D : List (List Value)} {x : List Value} {i n : Nat} (hn : n = i + 1 + D.length) (h : n ≤ R.length) : (blit (blit R (i + 1) D) i [x]).take n = R.take i ++ [x] ++ D := by
  have h1 : i + 1 + D.length ≤ R.length := by omega
  have hl := blit_len h1
  subst hn
  unfold blit
  have e1 : (R.take (i + 1) ++ D ++ R.drop (i + 1 + D.length)).take i = R.take i := by
    rw [List.append_assoc, List.take_append_of_le_length (by rw [List.length_take]; omega), List.take_take, Nat.min_eq_left (by omega)]
  have e2 : (R.take (i + 1) ++ D ++ R.drop (i + 1 + D.length)).drop (i + [x].length) = D ++ R.drop (i + 1 + D.length) := by
    have q : (R.take (i + 1)).length = i + 1 := by rw [List.length_take]; omega
    rw [List.append_assoc, List.length_singleton]
    exact List.drop_left' q
  rw [e1, e2, ← List.append_assoc]
  refine (List.take_append_of_le_length ?_).trans (List.take_of_length_le ?_) <;> (simp only [List.length_append, List.length_take, List.length_singleton]; omega)
theorem c_insertMidR (l : List Int) (x : Int) (g i : Nat) (ex : List (List Value)) (bv : Nat) (hex : ∀ r ∈ ex, r.length = 1) (hcap : l.length + ex.length ≤ 9223372036854775807) (hll : l.length ≤ 1000000) (hi : i < l.length) (w : World) (hg : Has w g (l.map rC ++ ex).flatten 31) (hv : Has w bv (rC x) 31) (hne : bv ≠ g) :
  FC Tryz.prog 208 [.slice (some ⟨g, 0, none⟩) l.length (l.length + ex.length), .int .i64 (i : Int), .slice (some ⟨bv, 0, none⟩) 1 1] w (fun u w' => ∃ a' c' M, u = .slice a' (l.length + 1) c' ∧ l.length + 1 ≤ c' ∧ Ft M (fun u => Sl u a' 1 ((l.take i ++ x :: l.drop i).map rC)) w' ∧ (∀ k, M k → k = g ∨ w.heap.size ≤ k) ∧ Agr (fun k => k = g) w w') := by
 have hR : ∀ r ∈ l.map rC ++ ex, r.length = 1 := fun r hr => (List.mem_append.1 hr).elim (it_rowsR r) (hex r)
 have hRl : (l.map rC ++ ex).length = l.length + ex.length := by rw [List.length_append, List.length_map]
 have G : Agr (fun k => k = g) w w := Agr.refl _ _
 have ltg := hg.lt
 have ltv := hv.lt
 have hTk : (l.map rC ++ ex).take i = (l.take i).map rC := by rw [List.take_append_of_le_length (by rw [List.length_map]; omega), List.map_take]
 have hDl : ((l.drop i).map rC).length = l.length - i := by rw [List.length_map, List.length_drop]
 have hm1 : min 1 (l.length + 1 - i) = 1 := by omega
 have hm2 : min (l.length - i) (l.length - i) = l.length - i := by omega
 have hm3 : min (l.length + 1 - i) (l.length - i) = l.length - i := by omega
 have hx2 : ∀ r ∈ [rC x], r.length = 1 := fun r hr => by rw [List.mem_singleton.1 hr]; rfl
 have hfin : ((l.take i).map rC ++ [rC x] ++ (l.drop i).map rC) = (l.take i ++ x :: l.drop i).map rC := by simp
 have hDt : ((l.drop i).map rC).take (l.length - i) = (l.drop i).map rC := List.take_of_length_le (by omega)
 have hRd : (((l.map rC ++ ex).drop i).take (l.length + 1 - i)).take (l.length - i) = (l.drop i).map rC := by
  rw [List.take_take, Nat.min_eq_left (by omega), List.drop_append_of_le_length (by rw [List.length_map]; omega), List.take_append_of_le_length (by rw [List.length_drop, List.length_map]; omega), ← List.map_drop, hDt]
 refine FC.intro Tryz.func208 rfl Tryz.ntmps208 rfl ?_
 refine RC.seq (RC.region rfl ?_);refine RL.asS rfl ?_;refine RL.nil (RC.back (RC.seq (RC.region rfl ?_)));refine RL.mvS rfl ?_;refine RL.mvS rfl ?_;refine RL.eS (.sliceLo sl73 rfl rfl (by omega)) ?_;refine RL.nil (RC.back (RC.seq (RC.region rfl ?_)));refine RL.mvS rfl ?_;refine RL.eS (.len sl73 rfl) ?_;refine RL.asS rfl ?_;refine RL.nil (RC.back (RC.seq (RC.seq (RC.region rfl ?_))));refine RL.mvS rfl ?_;refine RL.eS (.bin rfl rfl rfl) ?_;refine RL.nil (RC.back ?_);refine RC.cond_dec rfl (fun h1 => ?_) (fun h1 => ?_)
 ·
  exact absurd h1 (by decide)
 ·
  refine RC.skip (RC.back (RC.seq (RC.region rfl ?_)));refine RL.mvS rfl ?_;refine RL.eS (.len sl73 rfl) ?_;refine RL.asS rfl ?_;refine RL.nil (RC.back (RC.seq (RC.seq (RC.region rfl ?_))));refine RL.mvS rfl ?_;refine RL.mvS rfl ?_;refine RL.eS (.bin rfl rfl rfl) ?_;refine RL.nil (RC.back ?_);refine RC.cond_dec rfl (fun h2 => ?_) (fun h2 => ?_)
  ·
   exact absurd h2 (by omega)
  ·
   refine RC.skip (RC.back (RC.seq (RC.seq (RC.region rfl ?_))));refine RL.mvS rfl ?_;refine RL.mvS rfl ?_;refine RL.eS (.as (.bin rfl rfl rfl) (wi64 (y := ((l.length + 1 : Nat) : Int)) (by omega) (by omega))) ?_;refine RL.mvS rfl ?_;refine RL.eS (.cap sl73 rfl) ?_;refine RL.eS (.bin rfl rfl rfl) ?_;refine RL.nil (RC.back ?_);refine RC.cond_dec rfl (fun h3 => ?_) (fun h3 => ?_)
   ·
    have h31 : l.length + ex.length < l.length + 1 := (by omega)
    have nbv_g : bv ≠ g := by exact hne
    refine RC.seq (RC.region rfl ?_);refine RL.mvS rfl ?_;refine RL.mvS rfl ?_;refine RL.eS (.sliceHi sl73 rfl rfl (by omega)) ?_;refine RL.mvS rfl ?_;refine RL.mvS rfl ?_;refine RL.eS (.as (.bin rfl rfl rfl) (wi64 (y := ((l.length + 1 : Nat) : Int)) (by omega) (by omega))) ?_;refine RL.mvS rfl ?_;refine RL.eS (.as (.bin rfl rfl rfl) (wi64 (y := ((l.length + 1 - i : Nat) : Int)) (by omega) (by omega))) ?_;refine RL.appendZ (o := i) (k := l.length + 1 - i) (c := l.length + ex.length) (R := l.map rC ++ ex) sl73 Tryz.underlying3 ze31 rfl rfl rfl rfl hg hR (by omega) (by omega) (by omega) (by omega) (by omega) rfl rfl (fun b_9 w4 cap9 ex9 e_9 hc9 hb_9 hcx9 s9 => ?_)
    have hn9 : i + (l.length + 1 - i) = l.length + 1 := (by omega)
    rw [hn9] at hc9 hcx9 ⊢
    have nb_9_g : b_9 ≠ g := by rw [e_9]; exact fun e => by rw [e] at ltg; omega
    have nb_9_bv : b_9 ≠ bv := by rw [e_9]; exact fun e => by rw [e] at ltv; omega
    have geG_9 := agLe G e_9
    have hg := hg.sub s9;have hv := hv.sub s9;have G := G.trans s9.agr
    obtain ⟨R9, hq9⟩ : ∃ R9, R9 = (l.map rC ++ ex).take i ++ List.replicate (l.length + 1 - i) [Value.int .u64 0] ++ List.replicate ex9 [Value.int .u64 0] := ⟨_, rfl⟩
    have hb_9 : Has w4 b_9 R9.flatten _ := (by rw [hq9]; exact hb_9)
    have hR9l : R9.length = l.length + 1 + ex9 := (by rw [hq9, List.length_append, List.length_append, List.length_take, List.length_replicate, List.length_replicate]; omega)
    have hR9t : R9.take i = (l.take i).map rC := (by rw [hq9, List.append_assoc, List.take_append_of_le_length (by rw [List.length_take]; omega), List.take_take, Nat.min_self, hTk])
    have hR9 : ∀ r ∈ R9, r.length = 1 := (fun r hr => by rw [hq9] at hr; rcases List.mem_append.1 hr with hr | hr; rcases List.mem_append.1 hr with hr | hr; exact hR r (List.mem_of_mem_take hr); rw [(List.mem_replicate.1 hr).2]; rfl; rw [(List.mem_replicate.1 hr).2]; rfl)
    refine RL.asS rfl ?_;refine RL.nil (RC.back (RC.seq (RC.region rfl ?_)));refine RL.mvS rfl ?_;refine RL.mvS rfl ?_;refine RL.eS (.as (v' := .slice (some ⟨b_9, i * 1, none⟩) (l.length + 1 - i) (cap9 - i)) (.sliceLo sl73 rfl rfl (by omega)) (by rw [sl_at (by omega)]; rfl)) ?_;refine RL.mvS rfl ?_;refine RL.copyB (o := i) (k := 1) (m := l.length + 1 - i) (R := R9) (l := [rC x]) sl73 rfl rfl rfl hb_9 hR9 (by omega) (Has.sl0 (rows := [rC x]) (by simpa using hv) hx2) rfl hx2 (by rw [hm1]; rfl) rfl rfl (fun w5 z45 hb_9 a45 => ?_);have hg := hg.upd a45 nb_9_g.symm;have hv := hv.upd a45 nb_9_bv.symm
    have G := agNew G a45 geG_9
    rw [hm1] at hb_9
    have hb_9 : Has w5 b_9 (blit R9 i [rC x]).flatten _ := hb_9
    have hBl := blit_len (R := R9) (l := [rC x]) (o := i) (by simp; omega)
    have hBr := blit_rows (s := 1) (o := i) hR9 hx2
    refine RL.nil (RC.back (RC.seq ?_));refine RC.drawD (fun k => k = b_9) [8] w5.heap.size 9 rfl rfl mxo (fun w6 s7 => ?_);have hg := hg.sub s7;have hv := hv.sub s7;have G := G.trans s7.agr;have hb_9 := hb_9.sub s7;refine RD.tS 0 rfl (fun w' s' => .move rfl) ?_;refine RD.tS 1 rfl (fun w' s' => .move rfl) ?_;refine RD.tS 2 rfl (fun w' s' => .move rfl) ?_;refine RD.tS 3 rfl (fun w' s' => .as (.bin rfl rfl rfl) (wi64 (y := ((i + 1 : Nat) : Int)) (by omega) (by omega))) ?_;refine RD.tS 4 rfl (fun w' s' => .as (v' := .slice (some ⟨b_9, (i + 1) * 1, none⟩) (l.length - i) (cap9 - (i + 1))) (.sliceLo sl73 rfl rfl (by omega)) (by rw [sl_at (by omega)]; congr 1 <;> omega)) ?_;refine RD.tS 5 rfl (fun w' s' => .move rfl) ?_;refine RD.tS 6 rfl (fun w' s' => .move rfl) ?_;refine RD.tS 7 rfl (fun w' s' => .sliceLo sl73 rfl rfl (by omega)) ?_;refine RD.oneS 8 rfl ?_;refine RL.copyB (o := i + 1) (k := l.length - i) (m := l.length - i) (R := blit R9 i [rC x]) (l := (l.drop i).map rC) sl73 rfl rfl rfl hb_9 hBr (by omega) (slDropM (wh_slR hg) i (by omega)) hDl.symm it_rowsR (by rw [hm2, hDt]; exact it_plainR _) rfl rfl (fun w8 z54 hb_9 a54 => ?_);have hg := hg.upd a54 nb_9_g.symm;have hv := hv.upd a54 nb_9_bv.symm
    have G := agNew G a54 geG_9
    rw [hm2, hDt] at hb_9
    refine RD.backW rfl (a54.mono fun k _ e => .inl e) ?_;refine RD.done (by kernel_rfl) (RC.back ?_);refine RC.seq (RC.region rfl ?_);refine RL.mvS rfl ?_;refine RL.asS rfl ?_;refine RL.nil (RC.back ?_);refine RC.d1 6 rfl rfl rfl ?_
    have q := (Has.ftWR hb_9).imp (fun u h => Has.slN h (blit_rows hBr it_rowsR) (i + 1 + (l.length - i)))
    have q2 := (blit_take (R := blit R9 i [rC x]) (l := (l.drop i).map rC) (o := i + 1) (by omega)).2
    rw [hDl] at q2
    have q3 : (blit R9 i [rC x]).take (i + 1) = _ := (blit_take (R := R9) (l := [rC x]) (o := i) (by simp; omega)).2
    rw [q2, q3, hR9t, hfin] at q
    exact ⟨_, _, _, rfl, hc9, q, fun k hk => .inr (by rw [hk]; exact geG_9), G⟩
   ·
    have h31 : 1 ≤ ex.length := (by omega)
    have nbv_g : bv ≠ g := by exact hne
    refine RC.skip (RC.back (RC.seq (RC.region rfl ?_)));refine RL.mvS rfl ?_;refine RL.mvS rfl ?_;refine RL.mvS rfl ?_;refine RL.eS (.as (.bin rfl rfl rfl) (wi64 (y := ((l.length + 1 : Nat) : Int)) (by omega) (by omega))) ?_;refine RL.eS (.sliceHi sl73 rfl rfl (by omega)) ?_;refine RL.asS rfl ?_;refine RL.nil (RC.back (RC.seq (RC.seq (RC.region rfl ?_))));refine RL.mvS rfl ?_;refine RL.mvS rfl ?_;refine RL.mvS rfl ?_;refine RL.mvS rfl ?_;refine RL.eS (.as (.bin rfl rfl rfl) (wi64 (y := ((i + 1 : Nat) : Int)) (by omega) (by omega))) ?_;refine RL.eS (.as (v' := .slice (some ⟨g, (i + 1) * 1, none⟩) (l.length - i) (l.length + ex.length - (i + 1))) (.sliceLo sl73 rfl rfl (by omega)) (by rw [sl_at (by omega)]; congr 1 <;> omega)) ?_;refine RL.overlapsF (tR := 4) (a := ⟨bv, 0, none⟩) (b := ⟨g, (i + 1) * 1, none⟩) rfl rfl rfl (by kernel_rfl) (by kernel_rfl) sl73 rfl rfl hv hg hne (fun e => by have q := congrArg List.length e; rw [flat_len _ hR, hRl] at q; simp only [List.length_nil, Nat.mul_one] at q; omega) rfl rfl ?_;refine RL.eS (.not rfl) ?_;refine RL.nil (RC.back ?_);refine RC.cond_t rfl ?_;refine RC.seq ?_;refine RC.drawD (fun k => k = g) [8] w.heap.size 9 rfl rfl mxo (fun w10 s11 => ?_);have hg := hg.sub s11;have hv := hv.sub s11;have G := G.trans s11.agr;refine RD.tS 0 rfl (fun w' s' => .move rfl) ?_;refine RD.tS 1 rfl (fun w' s' => .move rfl) ?_;refine RD.tS 2 rfl (fun w' s' => .move rfl) ?_;refine RD.tS 3 rfl (fun w' s' => .as (.bin rfl rfl rfl) (wi64 (y := ((i + 1 : Nat) : Int)) (by omega) (by omega))) ?_;refine RD.tS 4 rfl (fun w' s' => .as (v' := .slice (some ⟨g, (i + 1) * 1, none⟩) (l.length - i) (l.length + ex.length - (i + 1))) (.sliceLo sl73 rfl rfl (by omega)) (by rw [sl_at (by omega)]; congr 1 <;> omega)) ?_;refine RD.tS 5 rfl (fun w' s' => .move rfl) ?_;refine RD.tS 6 rfl (fun w' s' => .move rfl) ?_;refine RD.tS 7 rfl (fun w' s' => .as (v' := .slice (some ⟨g, i * 1, none⟩) (l.length + 1 - i) (l.length + ex.length - i)) (.sliceLo sl73 rfl rfl (by omega)) (by rw [sl_at (by omega)]; rfl)) ?_;refine RD.oneS 8 rfl ?_;refine RL.copyB (o := i + 1) (k := l.length + 1 - i) (m := l.length - i) (R := l.map rC ++ ex) (l := ((l.map rC ++ ex).drop i).take (l.length + 1 - i)) sl73 rfl rfl rfl hg hR (by omega) ((sl_drop_at (hg.sl0 hR) i).take _) (by rw [List.length_take, List.length_drop]; omega) (fun r hr => hR r (List.mem_of_mem_drop (List.mem_of_mem_take hr))) (by rw [hm3, hRd]; exact it_plainR _) rfl rfl (fun w12 z77 hg a77 => ?_);have hv := hv.upd a77 nbv_g;have G := G.trans a77
    rw [hm3, hRd] at hg
    have hB1l := blit_len (R := l.map rC ++ ex) (l := (l.drop i).map rC) (o := i + 1) (by omega)
    have hB1r := blit_rows (s := 1) (o := i + 1) hR (it_rowsR (l := l.drop i))
    refine RD.backW rfl (a77.mono fun k _ e => .inl e) ?_;refine RD.done (by kernel_rfl) (RC.back ?_);refine RC.seq (RC.region rfl ?_);refine RL.mvS rfl ?_;refine RL.mvS rfl ?_;refine RL.eS (.as (v' := .slice (some ⟨g, i * 1, none⟩) (l.length + 1 - i) (l.length + ex.length - i)) (.sliceLo sl73 rfl rfl (by omega)) (by rw [sl_at (by omega)]; rfl)) ?_;refine RL.mvS rfl ?_;refine RL.copyB (o := i) (k := 1) (m := l.length + 1 - i) (R := blit (l.map rC ++ ex) (i + 1) ((l.drop i).map rC)) (l := [rC x]) sl73 rfl rfl rfl hg hB1r (by omega) (Has.sl0 (rows := [rC x]) (by simpa using hv) hx2) rfl hx2 (by rw [hm1]; rfl) rfl rfl (fun w13 z82 hg a82 => ?_);have G := G.trans a82
    rw [hm1] at hg
    have hg : Has w13 g (blit (blit (l.map rC ++ ex) (i + 1) ((l.drop i).map rC)) i [rC x]).flatten _ := hg
    refine RL.nil (RC.back (RC.seq (RC.region rfl ?_)));refine RL.mvS rfl ?_;refine RL.asS rfl ?_;refine RL.nil (RC.back ?_);refine RC.d1 6 rfl rfl rfl ?_
    have q := (Has.ftWR hg).imp (fun u h => Has.slN h (blit_rows hB1r hx2) (l.length + 1))
    rw [ins_takeR (by omega) (by omega), hTk, hfin] at q
    exact ⟨_, _, _, rfl, by omega, q, fun k hk => .inl hk, G⟩
theorem c_insertR (l : List Int) (x : Int) (base : Nat) (sa : Option Addr) (sc bv i : Nat) (w : World) (ov : Ows base w 31 1 (.slice sa l.length sc) (l.map rC)) (hbase : base ≤ w.heap.size) (hb : sc ≤ 9223372036854775807) (hl : l.length ≤ 1000000) (hi : i ≤ l.length) (hv : Has w bv (rC x) 31) (hne : ∀ k, ob (.slice sa l.length sc) = some k → k ≠ bv) :
    FC Tryz.prog 208 [.slice sa l.length sc, .int .i64 (i : Int), .slice (some ⟨bv, 0, none⟩) 1 1] w (fun u w' => ∃ a' c' M, u = .slice a' (l.length + 1) c' ∧ l.length + 1 ≤ c' ∧ Ft M (fun u => Sl u a' 1 ((l.take i ++ x :: l.drop i).map rC)) w' ∧ (∀ k, M k → base ≤ k) ∧ Agr (fun k => ob (.slice sa l.length sc) = some k) w w') := by
  by_cases h : i = l.length
  · subst h
    refine FC.mono (c_insertEndR l x base sa sc bv w ov hbase hl (Has.sl0 (rows := [x].map rC) (by simpa using hv) it_rowsR)) (fun u w' ⟨a', c', M, h1, h0, h2, h4, h3⟩ => ⟨a', c', M, h1, h0, ?_, h4, h3⟩)
    rw [List.take_length, List.drop_length]; exact h2
  · obtain ⟨g, ex, e1, e2, e3, e4, e5⟩ := ov.whole.resolve_left (fun q => by have := congrArg List.length q.2; simp only [List.length_map, List.length_nil] at this; omega)
    rw [List.length_map] at e1
    injection e1 with f1 f2 f3
    subst f1 f3
    refine FC.mono (c_insertMidR l x g i ex bv e4 hb hl (by omega) w e3 hv (fun e => hne g rfl e.symm)) (fun u w' ⟨a', c', M, h1, h0, h2, h4, h3⟩ => ⟨a', c', M, h1, h0, h2, fun k hk => (h4 k hk).elim (fun e => by rw [e]; exact e2) (fun e => Nat.le_trans hbase e), h3.mono fun k _ e => by rw [e]; rfl⟩)
theorem half_convR {n : Nat} (h : n ≤ 2000000) : IntKind.i64.wrap ((IntKind.u64.wrap (n : Int)).fdiv (2 ^ min (Int.toNat 1) IntKind.u64.bits)) = ((n / 2 : Nat) : Int) := by
  have e : (2 : Int) ^ min (Int.toNat 1) IntKind.u64.bits = 2 := rfl
  rw [wrap_u64 (by omega), e, Int.fdiv_eq_ediv_of_nonneg _ (by decide), wrap_i64 (by omega)]
  omega
theorem c_bsfR (g : FuncId) (hg : calleeOK Tryz.prog g = true) (key : Int) (cf : Int → Int) (us cs : List Value) (l : List Int) (hmono : ∀ (i j : Nat) (x y : Int), i ≤ j → l[i]? = some x → l[j]? = some y → cf y < 0 → cf x < 0) (a : Option Addr) (c m : Nat) (hm : m = l.length) (w : World) (hn : ∀ x ∈ l, ∀ w', Sub w w' → FC Tryz.prog g (us ++ [u6 x, .int .i64 key] ++ cs) w' (Val (.int .i64 (cf x)) w')) (hl : Sl w a 1 (l.map rC)) (hb : l.length ≤ 1000000) :
  FC Tryz.prog 205 [.slice a m c, .int .i64 key, .func (.func g) us.toArray cs.toArray] w (fun u w' => Sub w w' ∧ ∃ n : Nat, n ≤ l.length ∧ u = .tuple #[.int .i64 (n : Int), .bool (pRB (∃ x, l[n]? = some x ∧ cf x = 0))] ∧ (∀ k x, k < n → l[k]? = some x → cf x < 0) ∧ ∀ k x, n ≤ k → l[k]? = some x → ¬ cf x < 0) := by
 subst hm
 refine FC.intro Tryz.func205 rfl Tryz.ntmps205 rfl ?_
 have S := Sub.refl w
 refine RC.seq (RC.region rfl ?_);refine RL.asS rfl ?_;refine RL.asS rfl ?_;refine RL.nil (RC.back (RC.seq (RC.region rfl ?_)));refine RL.mvS rfl ?_;refine RL.eS (.len sl73 rfl) ?_;refine RL.asS rfl ?_;refine RL.nil (RC.back (RC.seq (RC.region rfl ?_)));refine RL.mvS rfl ?_;refine RL.asS rfl ?_;refine RL.asS rfl ?_;refine RL.nil (RC.back (RC.seq (RC.block ?_)));refine RC.loop (α := Nat × Nat) (fun x => [(0, .slice a l.length c), (1, .int .i64 key), (2, .func (.func g) us.toArray cs.toArray), (8, .int .i64 (l.length : Int)), (9, .int .i64 (x.1 : Int)), (10, .int .i64 (x.2 : Int))]) (fun x w1 => (x.1 ≤ x.2 ∧ x.2 ≤ l.length ∧ (∀ k z, k < x.1 → l[k]? = some z → cf z < 0) ∧ ∀ k z, x.2 ≤ k → l[k]? = some z → ¬ cf z < 0) ∧ Sub w w1) (fun x => x.2 - x.1) (0, l.length) (keep_of (by repeat (first | exact trivial | refine And.intro rfl ?_))) (⟨⟨Nat.zero_le _, Nat.le_refl _, fun k z h _ => absurd h (Nat.not_lt_zero _), fun k z h e => absurd (lt_of_get e) (Nat.not_lt.2 h)⟩, S⟩) (fun x w1 hJ => ?_)
 obtain ⟨i, j⟩ := x; obtain ⟨⟨hij, hj, hp1, hp2⟩, S⟩ := hJ; simp only [] at hij hj hp1 hp2
 refine RC.seq (RC.seq (RC.region rfl ?_));refine RL.mvS rfl ?_;refine RL.mvS rfl ?_;refine RL.eS (.bin rfl rfl rfl) ?_;refine RL.nil (RC.back ?_);refine RC.cond_dec rfl (fun h2 => ?_) (fun h2 => ?_)
 ·
  have h17 : i < j := (by omega)
  obtain ⟨x, hx⟩ := getSome (l := l) (i := (i + j) / 2) (by omega)
  refine RC.skip (RC.back (RC.block (RC.seq (RC.region rfl ?_))));refine RL.mvS rfl ?_;refine RL.mvS rfl ?_;refine RL.eS (.as (.bin rfl rfl rfl) (wi64 (y := ((i + j : Nat) : Int)) (by omega) (by omega))) ?_;refine RL.eS (.conv i3 i190 rfl) ?_;refine RL.eS (.shr rfl rfl (by decide)) ?_;refine RL.eS (.as (v' := .int .i64 (((i + j) / 2 : Nat) : Int)) (.conv i190 i3 rfl) (by rw [half_convR (by omega)])) ?_;refine RL.asS rfl ?_;refine RL.nil (RC.back (RC.seq (RC.region rfl ?_)));refine RL.mvS rfl ?_;refine RL.mvS rfl ?_;refine RL.mvS rfl ?_;refine RL.eS (.indexS sl73 rfl rfl (by omega) (hl.is (i := 0) (by simp only [List.length_map, List.length_cons, List.length_nil]; omega))) ?_;refine RL.eS (.load1 sh31 rfl ((hl.sub S).one (enc := u6) (i := (i + j) / 2) hx)) ?_;refine RL.mvS rfl ?_;refine RL.callv rfl rfl (us := us) (cs := cs) hg (hn x (List.mem_of_getElem? hx) w1 S) rfl rfl ?_;rintro _ w3 ⟨rfl, s4⟩;have S := S.trans s4;refine RL.eS (.bin rfl rfl rfl) ?_;refine RL.nil (RC.back ?_);refine RC.cond_dec rfl (fun h5 => ?_) (fun h5 => ?_)
  ·
   have h31 : cf x < 0 := h5
   refine RC.region rfl ?_;refine RL.mvS rfl ?_;refine RL.eS (.as (.bin rfl rfl rfl) (wi64 (y := (((i + j) / 2 + 1 : Nat) : Int)) (by omega) (by omega))) ?_;refine RL.asS rfl ?_
   exact RL.nil (fun a ka => ⟨((i + j) / 2 + 1, j), ⟨⟨by omega, hj, fun k z hk hz => hmono k _ z x (by omega) hz hx h31, hp2⟩, S⟩, by omega, ka.keep (keep_of (by repeat (first | exact trivial | refine And.intro rfl ?_)))⟩)
  ·
   have h31 : ¬ cf x < 0 := h5
   refine RC.region rfl ?_;refine RL.mvS rfl ?_;refine RL.asS rfl ?_
   exact RL.nil (fun a ka => ⟨(i, (i + j) / 2), ⟨⟨by omega, by omega, hp1, fun k z hk hz hlt => h31 (hmono _ k x z hk hx hz hlt)⟩, S⟩, by omega, ka.keep (keep_of (by repeat (first | exact trivial | refine And.intro rfl ?_)))⟩)
 ·
  have h17 : i = j := (by omega)
  subst h17
  refine RC.exit rfl (RC.back (RC.seq (RC.region rfl ?_)));refine RL.mvS rfl ?_;refine RL.mvS rfl ?_;refine RL.mvS rfl ?_;refine RL.eS (.bin rfl rfl rfl) ?_;refine RL.mvS rfl ?_;refine RL.split 39 rfl (fun h6 => ?_) (fun h6 => ?_)
  ·
   have h39 : i < l.length := (by omega)
   obtain ⟨y, hy⟩ := getSome (l := l) (i := i) h39
   refine RL.mvS rfl ?_;refine RL.mvS rfl ?_;refine RL.mvS rfl ?_;refine RL.eS (.indexS sl73 rfl rfl (by omega) (hl.is (i := 0) (by simp only [List.length_map, List.length_cons, List.length_nil]; omega))) ?_;refine RL.eS (.load1 sh31 rfl ((hl.sub S).one (enc := u6) (i := i) hy)) ?_;refine RL.mvS rfl ?_;refine RL.callv rfl rfl (us := us) (cs := cs) hg (hn y (List.mem_of_getElem? hy) w1 S) rfl rfl ?_;rintro _ w7 ⟨rfl, s8⟩;have S := S.trans s8;refine RL.eS (.bin rfl rfl rfl) ?_;refine RL.eS (.pick_t rfl rfl) ?_;refine RL.asS rfl ?_;refine RL.asS rfl ?_;refine RL.nil (RC.back ?_);refine RC.done (rs := [.tmp 6, .tmp 7]) (vs := [_, _]) rfl rfl ⟨rfl, rfl, trivial⟩ ?_
   refine ⟨S, i, by omega, ?_, hp1, hp2⟩
   rw [show pRB (∃ x, l[i]? = some x ∧ cf x = 0) = decide (cf y = 0) from by rw [Bool.eq_iff_iff, pRB_iff, decide_eq_true_iff]; exact ⟨fun ⟨x, h1, h2⟩ => by rw [hy] at h1; cases h1; exact h2, fun h => ⟨y, hy, h⟩⟩]
   rfl
  ·
   have h39 : i = l.length := (by omega)
   refine RL.offs 8 rfl ?_;refine RL.eS (.pick_f rfl rfl) ?_;refine RL.asS rfl ?_;refine RL.asS rfl ?_;refine RL.nil (RC.back ?_);refine RC.done (rs := [.tmp 6, .tmp 7]) (vs := [_, _]) rfl rfl ⟨rfl, rfl, trivial⟩ ?_
   refine ⟨S, i, by omega, ?_, hp1, hp2⟩
   rw [pRB_no (fun ⟨x, h1, _⟩ => absurd (lt_of_get h1) (by omega))]
   rfl
theorem flat1 : ∀ {R : List (List Value)} {j : Nat} {v : Value}, (∀ r ∈ R, r.length = 1) → R[j]? = some [v] → R.flatten[j]? = some v
  | [], j, v, _, h => by cases h
  | r :: R, j, v, hR, h => by
    have h1 := hR r (by simp)
    obtain ⟨u, rfl⟩ := List.length_eq_one_iff.1 h1
    cases j with
    | zero => simp only [List.getElem?_cons_zero, Option.some.injEq] at h; cases h; rfl
    | succ j =>
      rw [List.flatten_cons, List.singleton_append, List.getElem?_cons_succ]
      exact flat1 (fun r hr => hR r (by simp [hr])) (by simpa using h)
theorem idxOf_no {p : Int → Bool} {l : List Int} (h : idxOf p l = -1) : (l.filter fun x => !p x) = l := by
  refine List.filter_eq_self.2 fun x hx => ?_
  cases hp : p x with
  | false => rfl
  | true =>
    unfold idxOf at h
    rw [if_pos (List.any_eq_true.2 ⟨x, hx, hp⟩)] at h
    omega
theorem idxOf_yes {p : Int → Bool} {l : List Int} (h : ¬ idxOf p l = -1) : ∃ i x, idxOf p l = (i : Nat) ∧ l[i]? = some x ∧ p x = true ∧ ((l.take i).filter fun x => !p x) = l.take i := by
  unfold idxOf at h ⊢
  cases ha : l.any p with
  | false => rw [ha] at h; exact absurd rfl h
  | true =>
    have hlt : l.findIdx p < l.length := List.findIdx_lt_length_of_exists (by obtain ⟨x, hx, hp⟩ := List.any_eq_true.1 ha; exact ⟨x, hx, hp⟩)
    refine ⟨l.findIdx p, l[l.findIdx p], by rw [if_pos rfl], List.getElem?_eq_getElem hlt, List.findIdx_getElem (w := hlt), List.filter_eq_self.2 fun x hx => ?_⟩
    obtain ⟨j, hj⟩ := List.getElem?_of_mem hx
    have hjl := lt_of_get hj
    rw [List.length_take] at hjl
    rw [List.getElem?_take_of_lt (by omega)] at hj
    have := List.not_of_lt_findIdx (p := p) (xs := l) (i := j) (by omega)
    rw [getElem_of hj] at this
    simpa using this
set_option maxHeartbeats 1000000 in
theorem c_delFR (p : Int → Bool) (l : List Int) (g : Nat) (ex : List (List Value)) (hex : ∀ r ∈ ex, r.length = 1) (hcap : l.length + ex.length ≤ 9223372036854775807) (hll : l.length ≤ 1000000) (f : FuncId) (hf : calleeOK Tryz.prog f = true) (us cs : List Value) (w : World) (hg : Has w g (l.map rC ++ ex).flatten 31)
  (hp : ∀ x ∈ l, ∀ w', Agr (· = g) w w' → FC Tryz.prog f (us ++ [u6 x] ++ cs) w' (Val (.bool (p x)) w')) :
  FC Tryz.prog 210 [.slice (some ⟨g, 0, none⟩) l.length (l.length + ex.length), .func (.func f) us.toArray cs.toArray] w (fun u w' => u = .slice (some ⟨g, 0, none⟩) (l.filter fun x => !p x).length (l.length + ex.length) ∧ (∃ ex' : List (List Value), (∀ r ∈ ex', r.length = 1) ∧ (l.filter fun x => !p x).length + ex'.length = l.length + ex.length ∧ Has w' g ((l.filter fun x => !p x).map rC ++ ex').flatten 31) ∧ Agr (· = g) w w') := by
 have hR : ∀ r ∈ l.map rC ++ ex, r.length = 1 := fun r hr => (List.mem_append.1 hr).elim (it_rowsR r) (hex r)
 have hRl : (l.map rC ++ ex).length = l.length + ex.length := by rw [List.length_append, List.length_map]
 have G : Agr (· = g) w w := Agr.refl _ _
 refine FC.intro Tryz.func210 rfl Tryz.ntmps210 rfl ?_
 refine RC.seq (RC.region rfl ?_);refine RL.asS rfl ?_;refine RL.nil (RC.back (RC.seq (RC.region rfl ?_)));refine RL.mvS rfl ?_;refine RL.mvS rfl ?_;refine RL.call rfl ok241 (c_indexRef p l _ _ f hf us cs w (wh_slR hg) hll (fun x hx w' s => hp x hx w' s.agr)) rfl rfl ?_;rintro _ w1 ⟨rfl, s2⟩;have hg := hg.sub s2;have G := G.trans s2.agr;refine RL.asS rfl ?_;refine RL.nil (RC.back (RC.seq (RC.seq (RC.region rfl ?_))));refine RL.mvS rfl ?_;refine RL.eS (.bin rfl rfl rfl) ?_;refine RL.nil (RC.back ?_);refine RC.cond_dec rfl (fun h3 => ?_) (fun h3 => ?_)
 ·
  have h12 := idxOf_no h3
  refine RC.seq (RC.region rfl ?_);refine RL.mvS rfl ?_;refine RL.asS rfl ?_;refine RL.nil (RC.back ?_);refine RC.d1 4 rfl rfl rfl ?_
  rw [h12]
  exact ⟨rfl, ⟨ex, hex, rfl, hg⟩, G⟩
 ·
  obtain ⟨i0, x0, hi0, hx0, hpx0, hf0⟩ := idxOf_yes h3
  have hi0l := lt_of_get hx0
  rw [hi0]
  refine RC.skip (RC.back (RC.seq (RC.seq (RC.region rfl ?_))));refine RL.mvS rfl ?_;refine RL.eS (.as (.bin rfl rfl rfl) (wi64 (y := ((i0 + 1 : Nat) : Int)) (by omega) (by omega))) ?_;refine RL.asS rfl ?_;refine RL.nil (RC.back (RC.block ?_));refine RC.loop (α := Nat × Nat × List (List Value)) (fun x => [(0, .slice (some ⟨g, 0, none⟩) l.length (l.length + ex.length)), (1, .func (.func f) us.toArray cs.toArray), (5, .int .i64 (x.1 : Int)), (6, .int .i64 (x.2.1 : Int))]) (fun x w4 => (x.1 < x.2.1 ∧ x.2.1 ≤ l.length ∧ x.1 = ((l.take x.2.1).filter fun x => !p x).length ∧ (∀ r ∈ x.2.2, r.length = 1) ∧ x.2.2.length = l.length + ex.length ∧ x.2.2.take x.1 = ((l.take x.2.1).filter fun x => !p x).map rC ∧ x.2.2.drop x.2.1 = (l.map rC ++ ex).drop x.2.1) ∧ Has w4 g x.2.2.flatten 31 ∧ Agr (· = g) w w4) (fun x => l.length - x.2.1) (i0, i0 + 1, l.map rC ++ ex) (keep_of (by repeat (first | exact trivial | refine And.intro rfl ?_))) (⟨⟨by simp only []; omega, by simp only []; omega, by rw [List.take_add_one, hx0]; simp [List.filter_append, hf0, hpx0]; omega, hR, hRl, by rw [List.take_add_one, hx0]; simp [List.filter_append, hf0, hpx0]; rw [List.take_append_of_le_length (by rw [List.length_map]; omega)], rfl⟩, hg, G⟩) (fun x w4 hJ => ?_)
  obtain ⟨i, j, R⟩ := x; obtain ⟨⟨hij, hjl, hi, hR1, hR2, hR3, hR4⟩, hg, G⟩ := hJ; simp only [] at hij hjl hi hR1 hR2 hR3 hR4 hg
  refine RC.seq (RC.seq (RC.region rfl ?_));refine RL.mvS rfl ?_;refine RL.mvS rfl ?_;refine RL.eS (.len sl73 rfl) ?_;refine RL.eS (.bin rfl rfl rfl) ?_;refine RL.nil (RC.back ?_);refine RC.cond_dec rfl (fun h5 => ?_) (fun h5 => ?_)
  ·
   have h19 := h5
   simp only [] at h19
   obtain ⟨x, hx⟩ := getSome (l := l) (i := j) (by omega)
   have hxm := List.mem_of_getElem? hx
   have hRj : R[j]? = some [u6 x] := (by have q := congrArg (·[0]?) hR4; simp only [List.getElem?_drop, Nat.add_zero] at q; rw [q, List.getElem?_append_left (by rw [List.length_map]; omega), List.getElem?_map, hx]; rfl)
   refine RC.skip (RC.back (RC.seq (RC.block (RC.seq (RC.region rfl ?_)))));refine RL.mvS rfl ?_;refine RL.mvS rfl ?_;refine RL.eS (.indexO sl73 rfl rfl (by omega)) ?_;refine RL.eS (.load1 sh31 rfl (hg.cell (by rw [Nat.zero_add, Nat.mul_one, Int.toNat_natCast]; exact flat1 hR1 hRj))) ?_;refine RL.asS rfl ?_;refine RL.nil (RC.back (RC.seq (RC.region rfl ?_)));refine RL.mvS rfl ?_;refine RL.mvS rfl ?_;refine RL.callv rfl rfl (us := us) (cs := cs) hf (hp x hxm w4 G) rfl rfl ?_;rintro _ w6 ⟨rfl, s7⟩;have hg := hg.sub s7;have G := G.trans s7.agr;refine RL.eS (.not rfl) ?_;refine RL.nil (RC.back ?_);refine RC.cond rfl (fun h8 => ?_) (fun h8 => ?_)
   ·
    have hpx : p x = false := (by simpa using h8)
    have hnext : ((l.take (j + 1)).filter fun x => !p x) = ((l.take j).filter fun x => !p x) ++ [x] := (by rw [List.take_add_one, hx]; simp [List.filter_append, hpx])
    refine RC.seq (RC.region rfl ?_);refine RL.mvS rfl ?_;refine RL.mvS rfl ?_;refine RL.mvS rfl ?_;refine RL.eS (.indexO sl73 rfl rfl (by omega)) ?_;refine RL.store sh31 rfl rfl rfl hg (by rw [flat_len (sz := 1) _ hR1, hR2]; show 0 + i * 1 + 1 ≤ _; omega) (by rfl) rfl (fun w9 z9 hg a9 => ?_);have G := G.trans a9
    have hg := row_set0 (sz := 1) (i := i) (r := [u6 x]) (by rw [Nat.zero_add] at hg; exact hg) hR1 (by omega) rfl
    refine RL.nil (RC.back (RC.region rfl ?_));refine RL.mvS rfl ?_;refine RL.eS (.as (.bin rfl rfl rfl) (wi64 (y := ((i + 1 : Nat) : Int)) (by omega) (by omega))) ?_;refine RL.asS rfl ?_;refine RL.nil (RC.back (RC.region rfl ?_));refine RL.mvS rfl ?_;refine RL.eS (.as (.bin rfl rfl rfl) (wi64 (y := ((j + 1 : Nat) : Int)) (by simp only []; omega) (by omega))) ?_;refine RL.asS rfl ?_
    exact RL.nil (fun a ka => ⟨(i + 1, j + 1, R.set i [u6 x]), ⟨⟨by simp only []; omega, by simp only []; omega, by rw [hnext, List.length_append, ← hi]; rfl, fun r hr => (List.mem_or_eq_of_mem_set hr).elim (hR1 r) (fun e => e ▸ rfl), by rw [List.length_set]; exact hR2, by rw [hnext, List.map_append, ← hR3, List.take_add_one, List.take_set_of_le (Nat.le_refl _), List.getElem?_set_self (by first | omega | (simp only []; omega))]; rfl, by rw [List.drop_set_of_lt (by first | omega | (simp only []; omega)), ← List.drop_drop, ← List.drop_drop, hR4]⟩, hg, G⟩, by simp only []; omega, ka.keep (keep_of (by repeat (first | exact trivial | refine And.intro rfl ?_)))⟩)
   ·
    have hpx : p x = true := (by simpa using h8)
    have hnext : ((l.take (j + 1)).filter fun x => !p x) = ((l.take j).filter fun x => !p x) := (by rw [List.take_add_one, hx]; simp [List.filter_append, hpx])
    refine RC.skip (RC.back (RC.region rfl ?_));refine RL.mvS rfl ?_;refine RL.eS (.as (.bin rfl rfl rfl) (wi64 (y := ((j + 1 : Nat) : Int)) (by simp only []; omega) (by omega))) ?_;refine RL.asS rfl ?_
    exact RL.nil (fun a ka => ⟨(i, j + 1, R), ⟨⟨by simp only []; omega, by simp only []; omega, by rw [hnext]; exact hi, hR1, hR2, by rw [hnext]; exact hR3, by rw [← List.drop_drop, ← List.drop_drop, hR4]⟩, hg, G⟩, by simp only []; omega, ka.keep (keep_of (by repeat (first | exact trivial | refine And.intro rfl ?_)))⟩)
  ·
   have h19 := h5
   simp only [] at h19
   obtain rfl : j = l.length := (by omega)
   rw [List.take_length] at hi hR3
   refine RC.exit rfl (RC.back (RC.seq (RC.region rfl ?_)));refine RL.mvS rfl ?_;refine RL.mvS rfl ?_;refine RL.eS (.as (v' := .slice (some ⟨g, i * 1, none⟩) (l.length - i) (l.length + ex.length - i)) (.sliceLo sl73 rfl rfl (by omega)) (by rw [sl_at (by omega)]; congr 1 <;> omega)) ?_;refine RL.clearB (R := R) (o := i) (m := l.length - i) sl73 ze31 rfl rfl rfl rfl hg hR1 (by omega) rfl rfl (fun w10 z38 hg a38 => ?_);have G := G.trans a38;refine RL.nil (RC.back (RC.seq (RC.region rfl ?_)));refine RL.mvS rfl ?_;refine RL.mvS rfl ?_;refine RL.eS (.sliceHi sl73 rfl rfl (by omega)) ?_;refine RL.asS rfl ?_;refine RL.nil (RC.back ?_);refine RC.d1 4 rfl rfl rfl ?_
   have hb1 := blit_take (R := R) (l := List.replicate (l.length - i) [Value.int .u64 0]) (o := i) (by rw [List.length_replicate]; omega)
   have hb2 := blit_len (R := R) (l := List.replicate (l.length - i) [Value.int .u64 0]) (o := i) (by rw [List.length_replicate]; omega)
   have hb3 := blit_rows (s := 1) (l := List.replicate (l.length - i) [Value.int .u64 0]) (o := i) hR1 (fun r hr => by rw [(List.mem_replicate.1 hr).2]; rfl)
   rw [← hi]
   refine ⟨rfl, ⟨(blit R i (List.replicate (l.length - i) [Value.int .u64 0])).drop i, fun r hr => hb3 r (List.mem_of_mem_drop hr), by rw [List.length_drop, hb2]; omega, ?_⟩, G⟩
   rw [← hR3, ← hb1.1, List.take_append_drop]
   exact hg
end Go.Proofs.YtbjmllnddanniaaGreat
set_option linter.unusedVariables false
set_option linter.unusedSimpArgs false
set_option maxRecDepth 4000
namespace Go.Proofs.YtbjmllnddanniaaGreat
open Go Go.XL
theorem c_leaves1 (r : Int) (w : World) : FC Tryz.prog 249 [.int .u64 r] w (Val (.bool (decide (r = 0))) w) := by
 refine FC.intro Tryz.func249 rfl Tryz.ntmps249 rfl ?_
 have S := Sub.refl w
 refine RC.seq (RC.region rfl ?_);refine RL.asS rfl ?_;refine RL.nil (RC.back (RC.seq (RC.region rfl ?_)));refine RL.mvS rfl ?_;refine RL.eS (.bin rfl rfl rfl) ?_;refine RL.asS rfl ?_;refine RL.nil (RC.back ?_);refine RC.d1 2 rfl rfl rfl ?_
 exact ⟨rfl, S⟩
theorem c_cloneKids (y : Node) (k : Nat) (hk1 : 1 ≤ k) (hk : k ≤ 9) (b e : Nat) (w : World) (hb : Has w b y.cells e) :
    FC Tryz.prog 202 [.slice (some ⟨b, 5, none⟩) k 9] w (fun u w' => ∃ g ex, u = .slice (some ⟨g, 0, none⟩) k (k + ex.length) ∧ (∀ r ∈ ex, r.length = 1) ∧ k + ex.length ≤ maxLen ∧ w.heap.size ≤ g ∧ Has w' g ((y.kids.take k).map rC ++ ex).flatten 31 ∧ Sub w w') := by
  have hsl : Sl w (some ⟨b, 5, none⟩) 1 (y.kids.map rC) := Has.slPart (pre := [i6 y.kind, i6 y.gen, i6 y.n, i6 y.v, i6 y.s]) (post := [i6 y.pre, i6 y.suf]) hb rfl
  have hl : (y.kids.take k).length = k := by rw [List.length_take]; simp [Node.kids]; omega
  have hz := hb.lt
  refine (c_cloneR (y.kids.take k) (some ⟨b, 5, none⟩) 9 k hl.symm w (by rw [List.map_take]; exact hsl.take k) (by omega)).mono ?_
  rintro u w' ⟨a', c', rfl, ho, s⟩
  obtain ⟨g, ex, e1, e2, e3, e4, e5⟩ := ho.whole.resolve_left (fun q => by have := congrArg List.length q.2; rw [List.length_map, hl, List.length_nil] at this; omega)
  rw [List.length_map, hl] at e1 e5
  rw [hl]
  exact ⟨g, ex, e1, e4, e5, e2, e3, s⟩
theorem c_leaves (bf : Nat) (y : Node) (w : World) :
  FC Tryz.prog 204 [.pointer (some ⟨bf, 0, none⟩), y.val] w (fun u w' => ∃ g ex, u = .slice (some ⟨g, 0, none⟩) (kidsL y).length ((kidsL y).length + ex.length) ∧ (∀ r ∈ ex, r.length = 1) ∧ (kidsL y).length + ex.length ≤ maxLen ∧ w.heap.size ≤ g ∧ Has w' g ((kidsL y).map rC ++ ex).flatten 31 ∧ Sub w w') := by
 refine FC.intro Tryz.func204 rfl Tryz.ntmps204 rfl ?_
 have S := Sub.refl w
 refine RC.seq (RC.region rfl ?_);refine RL.box rfl rfl rfl (fun b_3 w_3 e_3 z_3 hb_3 s_3 => ?_);have S := S.trans s_3
 have hb_3 : Has w_3 b_3 (y.cells) _ := hb_3
 refine RL.asS rfl ?_;refine RL.nil (RC.back (RC.seq (RC.region rfl ?_)));refine RL.eS (.field0 fo140_5 rfl) ?_;refine RL.eS (.sliceArr ar138 rfl) ?_;refine RL.call rfl ok202 (c_cloneKids y 9 (by decide) (by decide) b_3 _ w_3 hb_3) rfl rfl ?_;rintro _ w1 ⟨b_g, ex, rfl, hex, hcap, hge, hb_g, s2⟩;have ge_g := Nat.le_trans S.size hge;have S := S.trans s2;refine RL.call rfl ok210 (c_delFR (fun r => decide (r = 0)) y.kids b_g ex hex hcap (by show 9 ≤ 1000000; omega) 249 ok249 [] [] w1 hb_g (fun x _ w' _ => c_leaves1 x w')) rfl rfl ?_;rintro _ w3 ⟨rfl, ⟨ex', hex', hcap', hg'⟩, ag⟩;have S := S.upd ag ge_g;refine RL.asS rfl ?_;refine RL.nil (RC.back ?_);refine RC.d1 4 rfl rfl rfl ?_
 refine ⟨b_g, ex', ?_, hex', by unfold kidsL; rw [hcap']; exact hcap, ge_g, hg', S⟩
 unfold kidsL
 rw [hcap']
 rfl
theorem c_isNaNH (a : Int) (w : World) : FC Tryz.prog 107 [.int .i64 a] w (Val (.bool false) w) := by
 refine FC.intro Tryz.func107 rfl Tryz.ntmps107 rfl ?_
 have S := Sub.refl w
 refine RC.seq (RC.region rfl ?_);refine RL.asS rfl ?_;refine RL.nil (RC.back (RC.seq (RC.region rfl ?_)));refine RL.mvS rfl ?_;refine RL.mvS rfl ?_;refine RL.eS (.as (v' := .bool false) (.bin rfl rfl rfl) (congrArg Value.bool (decide_eq_false (fun h => h rfl)))) ?_;refine RL.asS rfl ?_;refine RL.nil (RC.back ?_);refine RC.d1 2 rfl rfl rfl ?_
 exact ⟨rfl, S⟩
theorem c_compareH (a b : Int) (w : World) : FC Tryz.prog 49 [.int .i64 a, .int .i64 b] w (Val (.int .i64 (cmpH a b)) w) := by
 refine FC.intro Tryz.func49 rfl Tryz.ntmps49 rfl ?_
 have S := Sub.refl w
 refine RC.seq (RC.region rfl ?_);refine RL.asS rfl ?_;refine RL.nil (RC.back (RC.seq (RC.region rfl ?_)));refine RL.mvS rfl ?_;refine RL.call rfl ok107 (c_isNaNH a w) rfl rfl ?_;rintro _ w1 ⟨rfl, s2⟩;have S := S.trans s2;refine RL.asS rfl ?_;refine RL.nil (RC.back (RC.seq (RC.region rfl ?_)));refine RL.mvS rfl ?_;refine RL.call rfl ok107 (c_isNaNH b w1) rfl rfl ?_;rintro _ w3 ⟨rfl, s4⟩;have S := S.trans s4;refine RL.asS rfl ?_;refine RL.nil (RC.back (RC.seq (RC.seq (RC.region rfl ?_))));refine RL.mvS rfl ?_;refine RL.nil (RC.back ?_);refine RC.cond_f rfl ?_;refine RC.skip (RC.back (RC.seq (RC.seq (RC.region rfl ?_))));refine RL.mvS rfl ?_;refine RL.nil (RC.back ?_);refine RC.cond_f rfl ?_;refine RC.skip (RC.back (RC.seq (RC.seq (RC.region rfl ?_))));refine RL.mvS rfl ?_;refine RL.mvS rfl ?_;refine RL.eS (.bin rfl rfl rfl) ?_;refine RL.nil (RC.back ?_);refine RC.cond_dec rfl (fun h5 => ?_) (fun h5 => ?_)
 ·
  have h16 : a < b := h5
  have hres : cmpH a b = -1 := if_pos h16
  refine RC.seq (RC.region rfl ?_);refine RL.asS rfl ?_;refine RL.nil (RC.back ?_);refine RC.d1 4 rfl rfl rfl ?_
  rw [hres]
  exact ⟨rfl, S⟩
 ·
  have h16 : ¬ a < b := h5
  refine RC.skip (RC.back (RC.seq (RC.seq (RC.region rfl ?_))));refine RL.mvS rfl ?_;refine RL.mvS rfl ?_;refine RL.eS (.bin rfl rfl rfl) ?_;refine RL.nil (RC.back ?_);refine RC.cond_dec rfl (fun h6 => ?_) (fun h6 => ?_)
  ·
   have h19 : b < a := h6
   have hres : cmpH a b = 1 := (if_neg h16).trans (if_pos h19)
   refine RC.seq (RC.region rfl ?_);refine RL.asS rfl ?_;refine RL.nil (RC.back ?_);refine RC.d1 4 rfl rfl rfl ?_
   rw [hres]
   exact ⟨rfl, S⟩
  ·
   have h19 : ¬ b < a := h6
   have hres : cmpH a b = 0 := (if_neg h16).trans (if_neg h19)
   refine RC.skip (RC.back (RC.seq (RC.region rfl ?_)));refine RL.asS rfl ?_;refine RL.nil (RC.back ?_);refine RC.d1 4 rfl rfl rfl ?_
   rw [hres]
   exact ⟨rfl, S⟩
theorem c_put1H (bf b5 : Nat) (s : St) (C : Nat → Prop) (r key : Int) (hr : U64 r) (w : World) (hF : Ft C (Ho bf s C) w) (hb5 : Has w b5 [.pointer (some ⟨bf, 0, none⟩)] 193) :
  FC Tryz.prog 206 [.int .u64 r, .int .i64 key, .pointer (some ⟨b5, 0, none⟩)] w (Val (.int .i64 (cmpH (getN s.1 r).n key)) w) := by
 refine FC.intro Tryz.func206 rfl Tryz.ntmps206 rfl ?_
 have S := Sub.refl w
 refine RC.seq (RC.region rfl ?_);refine RL.asS rfl ?_;refine RL.nil (RC.back (RC.seq (RC.region rfl ?_)));refine RL.eS (.load1 sh193 rfl (hb5.cell rfl)) ?_;refine RL.mvS rfl ?_;refine RL.call rfl ok200 (c_hget bf s C r hr w hF) rfl rfl ?_;rintro _ w1 ⟨rfl, s2⟩;have S := S.trans s2;refine RL.eS (.fieldV Tryz.underlying140 rfl sh2 rfl rfl) ?_;refine RL.mvS rfl ?_;refine RL.call rfl ok49 (c_compareH (getN s.1 r).n key w1) rfl rfl ?_;rintro _ w3 ⟨rfl, s4⟩;have S := S.trans s4;refine RL.asS rfl ?_;refine RL.nil (RC.back ?_);refine RC.d1 5 rfl rfl rfl ?_
 exact ⟨rfl, S⟩
def HoP (bf n : Nat) (s : St) (C : Nat → Prop) (w : World) (J : St → Value → Prop) (v : Value) (w' : World) : Prop := ∃ s' C', HoQ n s s' ∧ J s' v ∧ Ft C' (Ho bf s' C') w' ∧ Agr (· = bf) w w' ∧ Up C w C'
theorem ks_flat (ks : List Int) : (ks.map rC).flatten = ks.map u6 := by
  induction ks with
  | nil => rfl
  | cons x l ih => rw [List.map_cons, List.flatten_cons, ih]; rfl
theorem ks_ft {w : World} {b e : Nat} {ks : List Int} (h : Has w b (ks.map rC).flatten e) : Ft (· = b) (fun u => Sl u (some ⟨b, 0, none⟩) 1 (ks.map fun x => [u6 x])) w := (Has.ftWR h).imp fun u h => Has.sl0 h it_rowsR
theorem ks_set {w : World} {b e i : Nat} {ks : List Int} {x : Int} (h : Has w b (splice (ks.map rC).flatten (0 + i * 1) [u6 x]) e) (hi : i < ks.length) : Has w b ((ks.set i x).map rC).flatten e := by
  rw [Nat.zero_add] at h
  have := row_set0 (sz := 1) (rows := ks.map rC) (i := i) (r := [u6 x]) h it_rowsR (by rw [List.length_map]; exact hi) rfl
  rw [List.map_set]; exact this
set_option maxHeartbeats 2000000 in
theorem c_hpair (bf : Nat) (x y : It) (hne : ¬ x.k = y.k) : ∀ (k lv : Nat) (a b : Int) (s : St) (C : Nat → Prop) (w : World), k ≤ 10 → lv = 10 - k → AOk s.1 → U64 a → U64 b → (s.2 = 0 → lfA s.1 a x ∧ lfA s.1 b y) → Ft C (Ho bf s C) w →
    FC Tryz.prog 209 [.pointer (some ⟨bf, 0, none⟩), .int .i64 (lv : Int), .int .u64 a, .int .u64 b] w (HoP bf (cnt k [x, y] - 2) s C w fun s' u => ∃ r', u = .int .u64 r' ∧ U64 r' ∧ (s'.2 = 0 → IsH s'.1 k r' [x, y])) := by
  intro k
  induction k with
  | zero =>
    intro lv a b s C w hk hlv hA ha hb hg hF
    obtain rfl : lv = 10 := by omega
    have hCb := hF.now.1
    have hgx : s.2 = 0 → (getN s.1 a).n = x.k := fun h => by obtain ⟨g, e⟩ := (hg h).1.getN; rw [e]; rfl
    have hgy : s.2 = 0 → (getN s.1 b).n = y.k := fun h => by obtain ⟨g, e⟩ := (hg h).2.getN; rw [e]; rfl
    refine FC.intro Tryz.func209 rfl Tryz.ntmps209 rfl ?_
    have G : Agr (· = bf) w w := Agr.refl _ _
    refine RC.seq (RC.region rfl ?_);refine RL.asS rfl ?_;refine RL.nil (RC.back (RC.seq (RC.region rfl ?_)));refine RL.mvS rfl ?_;refine RL.mvS rfl ?_;refine RL.call rfl ok200 (c_hget bf s C a ha w hF) rfl rfl ?_;rintro _ w1 ⟨rfl, s2⟩;have G := G.trans s2.agr;have hF := hF.sub s2;refine RL.mvS rfl ?_;refine RL.mvS rfl ?_;refine RL.call rfl ok200 (c_hget bf s C b hb w1 hF) rfl rfl ?_;rintro _ w3 ⟨rfl, s4⟩;have G := G.trans s4.agr;have hF := hF.sub s4;refine RL.alloc ze140 rfl rfl (fun b_9 w_9 e_9 z_9 hb_9 s_9 => ?_);have d_hF_b_9 := hF.neNew e_9
    have geG_9 := agLe G e_9
    have G := G.trans s_9.agr;have hF := hF.sub s_9;refine RL.alloc ze140 rfl rfl (fun b_10 w_10 e_10 z_10 hb_10 s_10 => ?_);have n_9__10 := hb_9.ne e_10;have d_hF_b_10 := hF.neNew e_10
    have geG_10 := agLe G e_10
    have G := G.trans s_10.agr;have hF := hF.sub s_10;have hb_9 := hb_9.sub s_10;refine RL.stS sh140 rfl rfl rfl hb_9 (fun w5 z5 hb_9 a5 => ?_)
    have G := agNew G a5 geG_9
    have hF := hF.updD a5 d_hF_b_9;have hb_10 := hb_10.upd a5 n_9__10.symm
    have hb_9 : Has w5 b_9 ((getN s.1 a).cells) _ := hb_9.now (by kernel_rfl)
    refine RL.stS sh140 rfl rfl rfl hb_10 (fun w6 z6 hb_10 a6 => ?_)
    have G := agNew G a6 geG_10
    have hF := hF.updD a6 d_hF_b_10;have hb_9 := hb_9.upd a6 n_9__10
    have hb_10 : Has w6 b_10 ((getN s.1 b).cells) _ := hb_10.now (by kernel_rfl)
    refine RL.nil (RC.back (RC.seq (RC.seq (RC.region rfl ?_))));refine RL.mvS rfl ?_;refine RL.eS (.as (v' := .bool true) (.bin rfl rfl rfl) (congrArg Value.bool (decide_eq_true (rfl)))) ?_;refine RL.nil (RC.back ?_);refine RC.cond_t rfl ?_;refine RC.seq (RC.seq (RC.region rfl ?_));refine RL.eS (.field0 fo140_2 rfl) ?_;refine RL.eS (.load1 sh2 rfl (hb_9.cell rfl)) ?_;refine RL.eS (.field0 fo140_2 rfl) ?_;refine RL.eS (.load1 sh2 rfl (hb_10.cell rfl)) ?_;refine RL.eS (.bin rfl rfl rfl) ?_;refine RL.nil (RC.back ?_);refine RC.cond_dec rfl (fun h7 => ?_) (fun h7 => ?_)
    ·
      have q : (getN s.1 b).n < (getN s.1 a).n := h7
      refine RC.region rfl ?_;refine RL.mvS rfl ?_;refine RL.mvS rfl ?_;refine RL.asS rfl ?_;refine RL.asS rfl ?_;refine RL.nil (RC.back (RC.seq (RC.region rfl ?_)));refine RL.mvS rfl ?_;refine RL.mvS rfl ?_;refine RL.mvS rfl ?_;refine RL.buildSliceN (vs := [_, _]) sl73 _ ze31 rfl ⟨rfl, rfl, trivial⟩ rfl rfl rfl rfl rfl rfl (fun b_32 w_32 e_32 z_32 hb_32 s_32 => ?_);have G := G.trans s_32.agr;have hF := hF.sub s_32;have hb_9 := hb_9.sub s_32;have hb_10 := hb_10.sub s_32;refine RL.call rfl ok203 (c_hnode bf s C 4 (by unfold I64; decide) [_, _] (fun k hk => by rcases List.mem_cons.1 hk with rfl | hk; assumption; rw [List.mem_singleton.1 hk]; assumption) (Nat.le_of_ble_eq_true rfl) (some ⟨b_32, 0, none⟩) 2 2 rfl (· = b_32) w_32 hF (ks_ft (ks := [_, _]) hb_32)) rfl rfl ?_;rintro _ w8 ⟨s1, r1, C1, rfl, hm, hF1, ag, up⟩
      have up := up.le G.size
      have G := G.trans ag;refine RL.asS rfl ?_;refine RL.nil (RC.back ?_);refine RC.d1 8 rfl rfl rfl ?_
      obtain ⟨p1, p2⟩ := pair_last hne hA (fun h => ⟨a, b, (hg h).1, (hg h).2, .inr ⟨by have h1 := hgx h; have h2 := hgy h; omega, rfl⟩⟩) rfl hm
      exact ⟨s1, C1, p1, ⟨r1, rfl, hm.u64, p2⟩, hF1, G, up⟩
    ·
      have q : ¬ (getN s.1 b).n < (getN s.1 a).n := (by have := h7; omega)
      refine RC.skip (RC.back (RC.seq (RC.region rfl ?_)));refine RL.mvS rfl ?_;refine RL.mvS rfl ?_;refine RL.mvS rfl ?_;refine RL.buildSliceN (vs := [_, _]) sl73 _ ze31 rfl ⟨rfl, rfl, trivial⟩ rfl rfl rfl rfl rfl rfl (fun b_32 w_32 e_32 z_32 hb_32 s_32 => ?_);have G := G.trans s_32.agr;have hF := hF.sub s_32;have hb_9 := hb_9.sub s_32;have hb_10 := hb_10.sub s_32;refine RL.call rfl ok203 (c_hnode bf s C 4 (by unfold I64; decide) [_, _] (fun k hk => by rcases List.mem_cons.1 hk with rfl | hk; assumption; rw [List.mem_singleton.1 hk]; assumption) (Nat.le_of_ble_eq_true rfl) (some ⟨b_32, 0, none⟩) 2 2 rfl (· = b_32) w_32 hF (ks_ft (ks := [_, _]) hb_32)) rfl rfl ?_;rintro _ w10 ⟨s1, r1, C1, rfl, hm, hF1, ag, up⟩
      have up := up.le G.size
      have G := G.trans ag;refine RL.asS rfl ?_;refine RL.nil (RC.back ?_);refine RC.d1 8 rfl rfl rfl ?_
      obtain ⟨p1, p2⟩ := pair_last hne hA (fun h => ⟨a, b, (hg h).1, (hg h).2, .inl ⟨by have h1 := hgx h; have h2 := hgy h; omega, rfl⟩⟩) rfl hm
      exact ⟨s1, C1, p1, ⟨r1, rfl, hm.u64, p2⟩, hF1, G, up⟩
  | succ k ih =>
    intro lv a b s C w hk hlv hA ha hb hg hF
    have hCb := hF.now.1
    have hgx : s.2 = 0 → (getN s.1 a).n = x.k := fun h => by obtain ⟨g, e⟩ := (hg h).1.getN; rw [e]; rfl
    have hgy : s.2 = 0 → (getN s.1 b).n = y.k := fun h => by obtain ⟨g, e⟩ := (hg h).2.getN; rw [e]; rfl
    have hlv2 : lv = 9 - k := by omega
    have hdi := dig_lt (getN s.1 a).n lv
    have hdj := dig_lt (getN s.1 b).n lv
    obtain ⟨i, hii⟩ : ∃ i, dig (getN s.1 a).n lv = i := ⟨_, rfl⟩
    obtain ⟨j, hjj⟩ : ∃ j, dig (getN s.1 b).n lv = j := ⟨_, rfl⟩
    rw [hii] at hdi
    rw [hjj] at hdj
    refine FC.intro Tryz.func209 rfl Tryz.ntmps209 rfl ?_
    have G : Agr (· = bf) w w := Agr.refl _ _
    refine RC.seq (RC.region rfl ?_);refine RL.asS rfl ?_;refine RL.nil (RC.back (RC.seq (RC.region rfl ?_)));refine RL.mvS rfl ?_;refine RL.mvS rfl ?_;refine RL.call rfl ok200 (c_hget bf s C a ha w hF) rfl rfl ?_;rintro _ w1 ⟨rfl, s2⟩;have G := G.trans s2.agr;have hF := hF.sub s2;refine RL.mvS rfl ?_;refine RL.mvS rfl ?_;refine RL.call rfl ok200 (c_hget bf s C b hb w1 hF) rfl rfl ?_;rintro _ w3 ⟨rfl, s4⟩;have G := G.trans s4.agr;have hF := hF.sub s4;refine RL.alloc ze140 rfl rfl (fun b_9 w_9 e_9 z_9 hb_9 s_9 => ?_);have d_hF_b_9 := hF.neNew e_9
    have geG_9 := agLe G e_9
    have G := G.trans s_9.agr;have hF := hF.sub s_9;refine RL.alloc ze140 rfl rfl (fun b_10 w_10 e_10 z_10 hb_10 s_10 => ?_);have n_9__10 := hb_9.ne e_10;have d_hF_b_10 := hF.neNew e_10
    have geG_10 := agLe G e_10
    have G := G.trans s_10.agr;have hF := hF.sub s_10;have hb_9 := hb_9.sub s_10;refine RL.stS sh140 rfl rfl rfl hb_9 (fun w5 z5 hb_9 a5 => ?_)
    have G := agNew G a5 geG_9
    have hF := hF.updD a5 d_hF_b_9;have hb_10 := hb_10.upd a5 n_9__10.symm
    have hb_9 : Has w5 b_9 ((getN s.1 a).cells) _ := hb_9.now (by kernel_rfl)
    refine RL.stS sh140 rfl rfl rfl hb_10 (fun w6 z6 hb_10 a6 => ?_)
    have G := agNew G a6 geG_10
    have hF := hF.updD a6 d_hF_b_10;have hb_9 := hb_9.upd a6 n_9__10
    have hb_10 : Has w6 b_10 ((getN s.1 b).cells) _ := hb_10.now (by kernel_rfl)
    refine RL.nil (RC.back (RC.seq (RC.seq (RC.region rfl ?_))));refine RL.mvS rfl ?_;refine RL.eS (.as (v' := .bool false) (.bin rfl rfl rfl) (congrArg Value.bool (decide_eq_false (by omega)))) ?_;refine RL.nil (RC.back ?_);refine RC.cond_f rfl ?_;refine RC.skip (RC.back (RC.seq (RC.region rfl ?_)));refine RL.makeSlice sl73 ze31 rfl rfl rfl rfl (by omega) rfl rfl (fun b_34 w_34 e_34 z_34 hb_34 s_34 => ?_);have d_hF_b_34 := hF.neNew e_34
    have geG_34 := agLe G e_34
    have G := G.trans s_34.agr;have hF := hF.sub s_34;have hb_9 := hb_9.sub s_34;have hb_10 := hb_10.sub s_34
    have hb_34 : Has w_34 b_34 ((List.replicate 4 (0 : Int)).map rC).flatten 31 := hb_34
    have n34f : b_34 ≠ bf := fun e => d_hF_b_34 bf hCb e.symm
    refine RL.asS rfl ?_;refine RL.nil (RC.back (RC.seq ?_));refine RC.draw rfl mxo (by kernel_rfl) ?_;refine RQ.ev (.field0 fo140_2 rfl) rfl rfl ?_;refine RQ.ev (.load1 sh2 rfl (hb_9.cell rfl)) rfl rfl ?_;refine RQ.ev (.move rfl) rfl rfl ?_;refine RQ.call rfl ok201 (fun w' s' => (hii ▸ c_digit (getN s.1 a).n lv (by omega) w')) rfl rfl ?_;refine RQ.ev (.field0 fo140_2 rfl) rfl rfl ?_;refine RQ.ev (.load1 sh2 rfl (hb_10.cell rfl)) rfl rfl ?_;refine RQ.ev (.move rfl) rfl rfl ?_;refine RQ.call rfl ok201 (fun w' s' => (hjj ▸ c_digit (getN s.1 b).n lv (by omega) w')) rfl rfl ?_;refine RQ.ev (.assign rfl) rfl rfl ?_;refine RQ.ev (.assign rfl) rfl rfl ?_;refine RQ.nil (fun w7 s8 => RC.back ?_);have G := G.trans s8.agr;have hF := hF.sub s8;have hb_34 := hb_34.sub s8;refine RC.seq (RC.seq (RC.region rfl ?_));refine RL.mvS rfl ?_;refine RL.mvS rfl ?_;refine RL.eS (.bin rfl rfl rfl) ?_;refine RL.nil (RC.back ?_);refine RC.cond_dec rfl (fun h9 => ?_) (fun h9 => ?_)
    ·
      have q : i = j := (by have := h9; omega)
      subst q
      refine RC.region rfl ?_;refine RL.mvS rfl ?_;refine RL.mvS rfl ?_;refine RL.mvS rfl ?_;refine RL.mvS rfl ?_;refine RL.eS (.as (.bin rfl rfl rfl) (wi64 (y := ((lv + 1 : Nat) : Int)) (by omega) (by omega))) ?_;refine RL.mvS rfl ?_;refine RL.mvS rfl ?_;refine RL.call rfl ok209 (ih (lv + 1) a b s C w7 (by omega) (by omega) hA ha hb hg hF) rfl rfl ?_;rintro _ w10 ⟨s1, C1, g1, ⟨r1, rfl, hu1, h1⟩, hF1, ag, up⟩;have d_hF_b_34 := upNe up d_hF_b_34 hb_34.lt
      have up := up.le G.size
      have G := G.trans ag;have hb_34 := hb_34.upd ag n34f
      have hF := hF1
      refine RL.eS (.indexO sl73 rfl rfl (by omega)) ?_;refine RL.store sh31 rfl rfl rfl hb_34 (by rw [ks_flat, List.length_map, List.length_replicate]; show 0 + i * 1 + 1 ≤ 4; omega) (by rfl) rfl (fun w12 z12 hb_34 a12 => ?_)
      have G := agNew G a12 geG_34
      have hF := hF.updD a12 d_hF_b_34
      have hb_34 := ks_set hb_34 (by simpa using hdi)
      refine RL.nil (RC.back (RC.seq (RC.region rfl ?_)));refine RL.mvS rfl ?_;refine RL.mvS rfl ?_;refine RL.call rfl ok203 (c_hnode bf _ _ 2 (by unfold I64; decide) _ (fun k hk => by rcases List.mem_or_eq_of_mem_set hk with hk | rfl; rotate_left; assumption; first | (rw [(List.mem_replicate.1 hk).2]; exact zu64) | (rcases List.mem_or_eq_of_mem_set hk with hk | rfl; rw [(List.mem_replicate.1 hk).2]; exact zu64; assumption)) (by simp) (some ⟨b_34, 0, none⟩) 4 4 (by simp) (· = b_34) w12 hF (ks_ft hb_34)) rfl rfl ?_;rintro _ w13 ⟨s2, r2, C2, rfl, hm, hF2, ag2, up2⟩
      have up2 := up2.le G.size
      have G := G.trans ag2;refine RL.asS rfl ?_;refine RL.nil (RC.back ?_);refine RC.d1 8 rfl rfl rfl ?_
      obtain ⟨p1, p2⟩ := pair_same hdi hA (fun h => ⟨by rw [← hlv2, ← hgx h]; exact hii, by rw [← hlv2, ← hgy h]; exact hjj⟩) g1 h1 rfl hm
      exact ⟨s2, C2, p1, ⟨r2, rfl, hm.u64, p2⟩, hF2, G, up.trans up2⟩
    ·
      have q : ¬ i = j := (by have := h9; omega)
      refine RC.region rfl ?_;refine RL.mvS rfl ?_;refine RL.mvS rfl ?_;refine RL.mvS rfl ?_;refine RL.mvS rfl ?_;refine RL.mvS rfl ?_;refine RL.mvS rfl ?_;refine RL.eS (.indexO sl73 rfl rfl (by omega)) ?_;refine RL.store sh31 rfl rfl rfl hb_34 (by rw [ks_flat, List.length_map, List.length_replicate]; show 0 + i * 1 + 1 ≤ 4; omega) (by rfl) rfl (fun w15 z15 hb_34 a15 => ?_)
      have G := agNew G a15 geG_34
      have hF := hF.updD a15 d_hF_b_34
      have hb_34 := ks_set hb_34 (by simpa using hdi)
      refine RL.eS (.indexO sl73 rfl rfl (by omega)) ?_;refine RL.store sh31 rfl rfl rfl hb_34 (by rw [ks_flat, List.length_map, List.length_set, List.length_replicate]; show 0 + j * 1 + 1 ≤ 4; omega) (by rfl) rfl (fun w16 z16 hb_34 a16 => ?_)
      have G := agNew G a16 geG_34
      have hF := hF.updD a16 d_hF_b_34
      have hb_34 := ks_set hb_34 (by simpa using hdj)
      refine RL.nil (RC.back (RC.seq (RC.region rfl ?_)));refine RL.mvS rfl ?_;refine RL.mvS rfl ?_;refine RL.call rfl ok203 (c_hnode bf _ _ 2 (by unfold I64; decide) _ (fun k hk => by rcases List.mem_or_eq_of_mem_set hk with hk | rfl; rotate_left; assumption; first | (rw [(List.mem_replicate.1 hk).2]; exact zu64) | (rcases List.mem_or_eq_of_mem_set hk with hk | rfl; rw [(List.mem_replicate.1 hk).2]; exact zu64; assumption)) (by simp) (some ⟨b_34, 0, none⟩) 4 4 (by simp) (· = b_34) w16 hF (ks_ft hb_34)) rfl rfl ?_;rintro _ w17 ⟨s2, r2, C2, rfl, hm, hF2, ag2, up2⟩
      have up2 := up2.le G.size
      have G := G.trans ag2;refine RL.asS rfl ?_;refine RL.nil (RC.back ?_);refine RC.d1 8 rfl rfl rfl ?_
      obtain ⟨p1, p2⟩ := pair_unlike hdi hdj q hA (fun h => ⟨by rw [← hlv2, ← hgx h]; exact hii, by rw [← hlv2, ← hgy h]; exact hjj, (hg h).1, (hg h).2⟩) rfl hm
      exact ⟨s2, C2, p1, ⟨r2, rfl, hm.u64, p2⟩, hF2, G, up2⟩
theorem ks_cellE {ks : List Int} {ex : List (List Value)} {i : Nat} {x : Int} (hex : ∀ r ∈ ex, r.length = 1) (h : ks[i]? = some x) : ((ks.map rC ++ ex).flatten)[0 + (i : Int).toNat * 1]? = some (u6 x) := by
  rw [Nat.zero_add, Nat.mul_one, Int.toNat_natCast]
  exact flat1 (fun r hr => (List.mem_append.1 hr).elim (it_rowsR r) (hex r)) (by rw [List.getElem?_append_left (by rw [List.length_map]; exact lt_of_get h), List.getElem?_map, h]; rfl)
theorem ks_setE {w : World} {b e i : Nat} {ks : List Int} {ex : List (List Value)} {x : Int} (hex : ∀ r ∈ ex, r.length = 1) (h : Has w b (splice (ks.map rC ++ ex).flatten (0 + i * 1) [u6 x]) e) (hi : i < ks.length) : Has w b ((ks.set i x).map rC ++ ex).flatten e := by
  rw [Nat.zero_add] at h
  have := row_set0 (sz := 1) (rows := ks.map rC ++ ex) (i := i) (r := [u6 x]) h (fun r hr => (List.mem_append.1 hr).elim (it_rowsR r) (hex r)) (by rw [List.length_append, List.length_map]; omega) rfl
  rw [List.set_append_left _ _ (by rw [List.length_map]; exact hi)] at this
  rw [List.map_set]; exact this
theorem ks_ftE {w : World} {b e : Nat} {ks : List Int} {ex : List (List Value)} (h : Has w b (ks.map rC ++ ex).flatten e) : Ft (· = b) (fun u => Sl u (some ⟨b, 0, none⟩) 1 (ks.map fun x => [u6 x])) w := (Has.ftWR h).imp fun u h => wh_slR h
theorem ks_lenE {ks : List Int} {ex : List (List Value)} (hex : ∀ r ∈ ex, r.length = 1) : (ks.map rC ++ ex).flatten.length = ks.length + ex.length := by
  rw [flat_len (sz := 1) _ (fun r hr => (List.mem_append.1 hr).elim (it_rowsR r) (hex r)), List.length_append, List.length_map]; omega
def PutR (bf : Nat) (k : Nat) (L : List It) (key v : Int) (s : St) (C : Nat → Prop) (w : World) : Value → World → Prop := HoP bf (cnt k (putM L key v)) s C w fun s' u => ∃ r', u = .int .u64 r' ∧ U64 r' ∧ (s'.2 = 0 → IsH s'.1 k r' (putM L key v))
set_option maxHeartbeats 2000000 in
theorem c_hputF (bf : Nat) (key v : Int) (hkey : I64 key) (hv : I64 v) (k lv : Nat) (r : Int) (L : List It) (s : St) (C : Nat → Prop) (w : World) (hk : k ≤ 10) (hlv : lv = 10 - k) (hL : IsH s.1 k r L) (hL1 : L.length ≤ 1) (hA : AOk s.1) (hr : U64 r) (hF : Ft C (Ho bf s C) w) :
    FC Tryz.prog 138 [.pointer (some ⟨bf, 0, none⟩), .int .u64 r, .int .i64 (lv : Int), .int .i64 key, .int .i64 v] w (PutR bf k L key v s C w) := by
  have hCb := hF.now.1
  have hk2 : ¬ (getN s.1 r).kind = 2 ∧ ¬ (getN s.1 r).kind = 4 ∧ (¬ (getN s.1 r).kind = 3 → L = []) ∧ ((getN s.1 r).kind = 3 → ∃ x, L = [x] ∧ lfA s.1 r x ∧ (getN s.1 r).n = x.k) := by
    rcases row_cases L with rfl | ⟨x, rfl⟩ | h
    · have e : getN s.1 r = bareN 0 := by rw [isH_nil.1 hL]; unfold getN; rw [getA_z]; rfl
      rw [e]
      exact ⟨by decide, by decide, fun _ => rfl, fun h => absurd h (by decide)⟩
    · have hx := isH_one.1 hL
      obtain ⟨g, e⟩ := hx.getN
      rw [e]
      exact ⟨(show ¬ (3 : Int) = 2 by decide), (show ¬ (3 : Int) = 4 by decide), fun h => absurd rfl h, fun _ => ⟨x, rfl, hx, rfl⟩⟩
    · omega
  obtain ⟨hn2, hn4, hn3, hy3⟩ := hk2
  refine FC.intro Tryz.func138 rfl Tryz.ntmps138 rfl ?_
  have G : Agr (· = bf) w w := Agr.refl _ _
  refine RC.seq (RC.region rfl ?_);refine RL.box rfl rfl rfl (fun b_5 w_5 e_5 z_5 hb_5 s_5 => ?_);have d_hF_b_5 := hF.neNew e_5;have G := G.trans s_5.agr;have hF := hF.sub s_5
  have n5f : b_5 ≠ bf := fun e => d_hF_b_5 bf hCb e.symm
  refine RL.asS rfl ?_;refine RL.nil (RC.back (RC.seq (RC.region rfl ?_)));refine RL.eS (.load1 sh193 rfl (hb_5.cell rfl)) ?_;refine RL.mvS rfl ?_;refine RL.call rfl ok200 (c_hget bf s C r hr w_5 hF) rfl rfl ?_;rintro _ w1 ⟨rfl, s2⟩;have G := G.trans s2.agr;have hF := hF.sub s2;have hb_5 := hb_5.sub s2;refine RL.alloc ze140 rfl rfl (fun b_11 w_11 e_11 z_11 hb_11 s_11 => ?_);have n_5__11 := hb_5.ne e_11;have d_hF_b_11 := hF.neNew e_11
  have geG_11 := agLe G e_11
  have G := G.trans s_11.agr;have hF := hF.sub s_11;have hb_5 := hb_5.sub s_11;refine RL.stS sh140 rfl rfl rfl hb_11 (fun w3 z3 hb_11 a3 => ?_)
  have G := agNew G a3 geG_11
  have hF := hF.updD a3 d_hF_b_11;have hb_5 := hb_5.upd a3 n_5__11
  have hb_11 : Has w3 b_11 ((getN s.1 r).cells) _ := hb_11.now (by kernel_rfl)
  refine RL.nil (RC.back (RC.seq (RC.seq (RC.region rfl ?_))));refine RL.eS (.field0 fo140_0 rfl) ?_;refine RL.eS (.load1 sh3 rfl (hb_11.cell rfl)) ?_;refine RL.nil (RC.back (RC.block (RC.seq (RC.region rfl ?_))));refine RL.eS (.as (v' := .bool false) (.bin rfl rfl rfl) (congrArg Value.bool (decide_eq_false (hn2)))) ?_;refine RL.asS rfl ?_;refine RL.nil (RC.back ?_);refine RC.cond_f rfl ?_;refine RC.seq (RC.region rfl ?_);refine RL.eS (.as (v' := .bool false) (.bin rfl rfl rfl) (congrArg Value.bool (decide_eq_false (hn4)))) ?_;refine RL.asS rfl ?_;refine RL.nil (RC.back ?_);refine RC.cond_f rfl ?_;refine RC.seq (RC.region rfl ?_);refine RL.eS (.bin rfl rfl rfl) ?_;refine RL.asS rfl ?_;refine RL.nil (RC.back ?_);refine RC.cond_dec rfl (fun h4 => ?_) (fun h4 => ?_)
  ·
    have q3 := h4
    obtain ⟨x, hLx, hlx, hxk⟩ := hy3 q3
    subst hLx
    refine RC.seq (RC.region rfl ?_);refine RL.eS (.field0 fo140_2 rfl) ?_;refine RL.eS (.load1 sh2 rfl (hb_11.cell rfl)) ?_;refine RL.mvS rfl ?_;refine RL.eS (.bin rfl rfl rfl) ?_;refine RL.nil (RC.back ?_);refine RC.cond_dec rfl (fun h5 => ?_) (fun h5 => ?_)
    ·
      have hne : ¬ x.k = key := (by have := h5; rw [← hxk]; exact this)
      refine RC.seq ?_;refine RC.drawD (fun k => k = bf) [6, 7] w3.heap.size 9 rfl rfl mxo (fun w6 s7 => ?_);have ltD_b_5 := hb_5.lt;have G := G.trans s7.agr;have hF := hF.sub s7;have hb_5 := hb_5.sub s7;refine RD.tS 0 rfl (fun w' s' => .load1 sh193 rfl ((hb_5.step s' (fun e => e.elim (fun e => n5f e) (fun e => Nat.not_le.2 ltD_b_5 e))).cell rfl)) ?_;refine RD.tS 1 rfl (fun w' s' => .move rfl) ?_;refine RD.tS 2 rfl (fun w' s' => .move rfl) ?_;refine RD.tS 3 rfl (fun w' s' => .load1 sh193 rfl ((hb_5.step s' (fun e => e.elim (fun e => n5f e) (fun e => Nat.not_le.2 ltD_b_5 e))).cell rfl)) ?_;refine RD.tS 4 rfl (fun w' s' => .move rfl) ?_;refine RD.tS 5 rfl (fun w' s' => .move rfl) ?_;refine RD.oneS 6 rfl ?_;refine RL.call rfl ok207 (c_hleaf bf s C key v hkey hv w6 hF) rfl rfl ?_;rintro _ w8 ⟨s1, r1, C1, rfl, hm, hF1, ag, up⟩
      have up := up.le G.size
      have G := G.trans ag;have hb_5 := hb_5.upd ag n5f
      have hF := hF1
      refine RD.backW rfl (ag.mono fun k _ e => .inl e) ?_;refine RD.oneS 7 rfl ?_;refine RL.call rfl ok209 (c_hpair bf x ⟨key, v⟩ hne k lv r r1 s1 C1 w8 hk hlv (mk_leaf hA hm).1.ok hr hm.u64 (fun h => ⟨hlx.ext (mk_leaf hA hm).1.ext, (mk_leaf hA hm).2 h⟩) hF) rfl rfl ?_;rintro _ w10 ⟨s2, C2, g2, ⟨r2, rfl, hu2, h2⟩, hF2, ag2, up2⟩
      have up2 := up.trans (up2.le G.size)
      have G := G.trans ag2;have hb_5 := hb_5.upd ag2 n5f
      have hF := hF2
      refine RD.backW rfl (ag2.mono fun k _ e => .inl e) ?_;refine RD.tS 8 rfl (fun w' s' => .assign rfl) ?_;refine RD.done (by kernel_rfl) (RC.back ?_);refine RC.d1 10 rfl rfl rfl ?_
      obtain ⟨p1, p2⟩ := put_pair hne hA hm g2 h2
      exact ⟨s2, C2, p1, ⟨r2, rfl, hu2, p2⟩, hF, G, up2⟩
    ·
      have hxe : x.k = key := (by have := Decidable.not_not.1 h5; rw [← hxk]; exact this)
      have hdel : delL [x] key = [] := filter_none (fun z hz => by rw [List.mem_singleton.1 hz]; simpa using hxe)
      refine RC.skip (RC.back (RC.seq (RC.region rfl ?_)));refine RL.eS (.load1 sh193 rfl (hb_5.cell rfl)) ?_;refine RL.mvS rfl ?_;refine RL.mvS rfl ?_;refine RL.call rfl ok207 (c_hleaf bf s C key v hkey hv w3 hF) rfl rfl ?_;rintro _ w12 ⟨s1, r1, C1, rfl, hm, hF1, ag, up⟩
      have up := up.le G.size
      have G := G.trans ag;have hb_5 := hb_5.upd ag n5f
      have hF := hF1
      refine RL.asS rfl ?_;refine RL.nil (RC.back ?_);refine RC.d1 10 rfl rfl rfl ?_
      obtain ⟨p1, p2⟩ := put_leaf (k := k) hA hdel hm
      exact ⟨s1, C1, p1, ⟨r1, rfl, hm.u64, p2⟩, hF, G, up⟩
  ·
    have q3 := hn3 h4
    subst q3
    have hdel : delL [] key = [] := rfl
    refine RC.skip (RC.back (RC.seq (RC.region rfl ?_)));refine RL.eS (.load1 sh193 rfl (hb_5.cell rfl)) ?_;refine RL.mvS rfl ?_;refine RL.mvS rfl ?_;refine RL.call rfl ok207 (c_hleaf bf s C key v hkey hv w3 hF) rfl rfl ?_;rintro _ w14 ⟨s1, r1, C1, rfl, hm, hF1, ag, up⟩
    have up := up.le G.size
    have G := G.trans ag
    have hF := hF1
    refine RL.asS rfl ?_;refine RL.nil (RC.back ?_);refine RC.d1 10 rfl rfl rfl ?_
    obtain ⟨p1, p2⟩ := put_leaf (k := k) hA hdel hm
    exact ⟨s1, C1, p1, ⟨r1, rfl, hm.u64, p2⟩, hF, G, up⟩
open Go Go.XL
def bareH (y : Node) : Node := ⟨y.kind, y.gen, 0, 0, y.s, y.k0, y.k1, y.k2, y.k3, y.k4, y.k5, y.k6, y.k7, y.k8, 0, 0⟩
def leafH (y : Node) : Node := ⟨y.kind, y.gen, y.n, y.v, 0, 0, 0, 0, 0, 0, 0, 0, 0, 0, 0, 0⟩
theorem bareH_iff {y : Node} : bareH y = y ↔ y = hN y.kind y.gen 0 0 y.s y.kids := by
  cases y; simp [bareH, hN, Node.kids]; omega
theorem leafH_iff {y : Node} : leafH y = y ↔ y = hN y.kind y.gen y.n y.v 0 [] := by
  cases y; simp [leafH, hN]; omega
theorem hN_kid {kd g n v s : Int} {ks : List Int} {i : Nat} (h : i < 9) : (hN kd g n v s ks).kids.getD i 0 = ks.getD i 0 := by
  rcases i with _|_|_|_|_|_|_|_|_|i
  all_goals first | rfl | omega
theorem kids_ext {y : Node} {kd g n v s : Int} {ks : List Int} (h : y = hN kd g n v s y.kids) (e : ∀ i, i < 9 → y.kids.getD i 0 = ks.getD i 0) : y = hN kd g n v s ks := by
  rw [h]
  have e0 := e 0 (by omega)
  have e1 := e 1 (by omega)
  have e2 := e 2 (by omega)
  have e3 := e 3 (by omega)
  have e4 := e 4 (by omega)
  have e5 := e 5 (by omega)
  have e6 := e 6 (by omega)
  have e7 := e 7 (by omega)
  have e8 := e 8 (by omega)
  unfold hN
  rw [e0, e1, e2, e3, e4, e5, e6, e7, e8]
def MayT (A : Ar) (k : Nat) (r : Int) (d : Nat) (left : Int) (l : List It) : Prop := IsH A k r l ∧ Fam (10 - k) d l ∧ Ap l ∧ (l.length : Int) ≤ left
def MayP (A : Ar) (k : Nat) (r : Int) (d : Nat) (left : Int) (n : Int) : Prop := (∃ l, MayT A k r d left l ∧ n = l.length) ∨ (n = -1 ∧ ∀ l, ¬ MayT A k r d left l)
section
variable {A : Ar} {k d i : Nat} {r left n sum many : Int} {y : Node} {l : List It}
theorem MayP.rng (h : MayP A k r d left n) (hl : 0 ≤ left) : -1 ≤ n ∧ n ≤ left := by
  rcases h with ⟨l, h, rfl⟩ | ⟨rfl, _⟩
  · have := h.2.2.2; omega
  · omega
theorem mayT_0 (h0 : 0 ≤ left) : MayT A k 0 d left [] := ⟨isH_nil.2 rfl, Fam.nil _ _, List.Pairwise.nil, by simpa using h0⟩
theorem mayP_0 (h0 : 0 ≤ left) : MayP A k 0 d left 0 := .inl ⟨[], mayT_0 h0, rfl⟩
theorem MayT.cases (hr : ¬ r = 0) (h : MayT A k r d left l) : (∃ x, l = [x] ∧ lfA A r x) ∨ 2 ≤ l.length := by
  rcases row_cases l with rfl | ⟨x, rfl⟩ | hl
  · exact absurd (isH_nil.1 h.1) hr
  · exact .inl ⟨x, rfl, isH_one.1 h.1⟩
  · exact .inr hl
theorem mayP_bad (hr : ¬ r = 0) (h : getA A r = none ∨ left ≤ 0) : MayP A k r d left (-1) := by
  refine .inr ⟨rfl, fun l hT => ?_⟩
  have hp : 0 < l.length := by
    rcases row_cases l with rfl | ⟨x, rfl⟩ | hl
    · exact absurd (isH_nil.1 hT.1) hr
    · simp
    · omega
  have := hT.2.2.2
  rcases h with h | h
  · rcases hT.cases hr with ⟨x, _, g, hx⟩ | hl
    · rw [h] at hx; cases hx
    · obtain ⟨_, _, _, _, hx⟩ := hT.1.node hl
      rw [h] at hx; cases hx
  · omega
theorem lfA_iff (h : getA A r = some y) {x : It} : lfA A r x ↔ y.kind = 3 ∧ leafH y = y ∧ y.n = x.k ∧ y.v = x.v := by
  constructor
  · rintro ⟨g, hx⟩
    rw [h] at hx
    cases hx
    exact ⟨rfl, rfl, rfl, rfl⟩
  · rintro ⟨h1, h2, h3, h4⟩
    refine ⟨y.gen, ?_⟩
    have := leafH_iff.1 h2
    rw [h1, h3, h4] at this
    rw [h, ← this]
theorem mayP_leaf (hr : ¬ r = 0) (h : getA A r = some y) (h3 : y.kind = 3) (hl : 0 < left) : (leafH y = y ∧ hashOf y.n % 4 ^ (10 - k) = d → MayP A k r d left 1) ∧ (¬ (leafH y = y ∧ hashOf y.n % 4 ^ (10 - k) = d) → MayP A k r d left (-1)) := by
  constructor
  · rintro ⟨h1, h2⟩
    refine .inl ⟨[⟨y.n, y.v⟩], ⟨isH_one.2 ((lfA_iff h).2 ⟨h3, h1, rfl, rfl⟩), fun x hx => ?_, List.pairwise_singleton _ _, by simp only [List.length_singleton]; omega⟩, rfl⟩
    rw [List.mem_singleton.1 hx]; exact h2
  · intro hn
    refine .inr ⟨rfl, fun l hT => ?_⟩
    rcases hT.cases hr with ⟨x, rfl, hx⟩ | hl
    · have hx := (lfA_iff h).1 hx
      refine hn ⟨hx.2.1, ?_⟩
      rw [hx.2.2.1]
      exact hT.2.1 x (by simp)
    · obtain ⟨kd, g, ks, hk, hx⟩ := hT.1.node hl
      rw [h] at hx
      cases hx
      rcases hk with ⟨rfl, _⟩ | ⟨rfl, _⟩
      · exact absurd h3 (show ¬ (2 : Int) = 3 by decide)
      · exact absurd h3 (show ¬ (4 : Int) = 3 by decide)
theorem mayP_odd (hr : ¬ r = 0) (h : getA A r = some y) (h3 : ¬ y.kind = 3) (hb : ¬ bareH y = y ∨ y.kind = 2 ∧ k = 0 ∨ y.kind = 4 ∧ ¬ k = 0 ∨ ¬ y.kind = 2 ∧ ¬ y.kind = 4) : MayP A k r d left (-1) := by
  refine .inr ⟨rfl, fun l hT => ?_⟩
  rcases hT.cases hr with ⟨x, rfl, hx⟩ | hl
  · exact h3 ((lfA_iff h).1 hx).1
  · obtain ⟨kd, g, ks, hk, hx⟩ := hT.1.node hl
    rw [h] at hx
    cases hx
    rcases hb with hb | hb | hb | hb
    · exact hb rfl
    · rcases hk with ⟨rfl, q⟩ | ⟨rfl, q⟩
      · exact q hb.2
      · exact absurd hb.1 (show ¬ (4 : Int) = 2 by decide)
    · rcases hk with ⟨rfl, q⟩ | ⟨rfl, q⟩
      · exact absurd hb.1 (show ¬ (2 : Int) = 4 by decide)
      · exact hb.2 q
    · rcases hk with ⟨rfl, h⟩ | ⟨rfl, h⟩
      · exact hb.1 rfl
      · exact hb.2 rfl
theorem MayT.trie (h : getA A r = some y) (h2 : y.kind = 2) (hT : MayT A (k + 1) r d left l) : 2 ≤ l.length ∧ y.s = l.length ∧ (∀ j, j < 4 → IsH A k (y.kids.getD j 0) (ofL (9 - k) j l)) ∧ ∀ j, 4 ≤ j → j < 9 → y.kids.getD j 0 = 0 := by
  rcases hT.cases (getA_nz h) with ⟨x, rfl, hx⟩ | hl
  · have := ((lfA_iff h).1 hx).1; omega
  · obtain ⟨g, ks, e1, e2, e3⟩ := (isH_trie hl).1 hT.1
    rw [h] at e2
    cases e2
    refine ⟨hl, rfl, fun j hj => ?_, fun j h4 h9 => ?_⟩
    · rw [hN_kid (by omega)]; exact e3 j hj
    · rw [hN_kid h9, List.getD_eq_getElem?_getD, List.getElem?_eq_none (by omega)]; rfl
def TrieS (A : Ar) (k : Nat) (y : Node) (d : Nat) (left : Int) (i : Nat) (sum : Int) : Prop := ∃ l : List It, (∀ x ∈ l, dig x.k (9 - k) < i) ∧ Fam (9 - k) d l ∧ Ap l ∧ (∀ j, j < i → j < 4 → IsH A k (y.kids.getD j 0) (ofL (9 - k) j l)) ∧ (∀ j, 4 ≤ j → j < i → y.kids.getD j 0 = 0) ∧ sum = l.length ∧ sum ≤ left
theorem trie_start (h0 : 0 ≤ left) : TrieS A k y d left 0 0 := ⟨[], fun x h => (by cases h), Fam.nil _ _, List.Pairwise.nil, fun j h => absurd h (by omega), fun j _ h => absurd h (by omega), rfl, h0⟩
theorem trie_step (hk : k ≤ 9) (hd : d < 4 ^ (9 - k)) (hS : TrieS A k y d left i sum) (hi : i < 9) (h4 : 4 ≤ i → y.kids.getD i 0 = 0) (hP : MayP A k (y.kids.getD i 0) (d + 4 ^ (9 - k) * (i % 4)) (left - sum) n) (hn : 0 ≤ n) : TrieS A k y d left (i + 1) (sum + n) := by
  obtain ⟨l, q1, q2, q3, q4, q5, q6, q7⟩ := hS
  rcases hP with ⟨m, ⟨m1, m2, m3, m4⟩, rfl⟩ | ⟨rfl, _⟩
  · rw [show 10 - k = 9 - k + 1 by omega] at m2
    by_cases hi4 : 4 ≤ i
    · rw [h4 hi4] at m1
      have hm : m = [] := m1.zero.1 rfl
      subst hm
      refine ⟨l, fun x hx => Nat.lt_succ_of_lt (q1 x hx), q2, q3, fun j hj hj4 => q4 j (by omega) hj4, fun j hj4 hj => ?_, by rw [q6]; simp, by simpa using q7⟩
      by_cases e : j = i
      · rw [e]; exact h4 hi4
      · exact q5 j hj4 (by omega)
    · rw [Nat.mod_eq_of_lt (by omega)] at m2
      obtain ⟨b1, b2⟩ := Fam.back hd (by omega) m2
      have of_l : ∀ j, i ≤ j → ofL (9 - k) j l = [] := fun j hj => List.filter_eq_nil_iff.2 fun x hx => by have := q1 x hx; simp; omega
      have of_m : ∀ j, ¬ j = i → ofL (9 - k) j m = [] := fun j hj => List.filter_eq_nil_iff.2 fun x hx => by have := b2 x hx; simp; omega
      have of_i : ofL (9 - k) i m = m := List.filter_eq_self.2 fun x hx => by simpa using b2 x hx
      have of_app : ∀ j, ofL (9 - k) j (l ++ m) = ofL (9 - k) j l ++ ofL (9 - k) j m := fun j => List.filter_append _ _
      refine ⟨l ++ m, fun x hx => ?_, fun x hx => ?_, List.pairwise_append.2 ⟨q3, m3, fun x hx z hz e => ?_⟩, fun j hj hj4 => ?_, fun j hj4 hj => absurd hj (by omega), by rw [q6, List.length_append]; omega, by omega⟩
      · rcases List.mem_append.1 hx with hx | hx
        · have := q1 x hx; omega
        · have := b2 x hx; omega
      · rcases List.mem_append.1 hx with hx | hx
        · exact q2 x hx
        · exact b1 x hx
      · have h1 := q1 x hx
        have h2 := b2 z hz
        rw [e] at h1; omega
      · rw [of_app]
        by_cases e : j = i
        · rw [e, of_l i (Nat.le_refl _), of_i]; exact m1
        · rw [of_m j e, List.append_nil]; exact q4 j (by omega) hj4
  · omega
theorem lt_succ_len (lv i : Nat) (l : List It) : (l.filter fun x => decide (dig x.k lv < i + 1)).length = (l.filter fun x => decide (dig x.k lv < i)).length + (ofL lv i l).length := by
  induction l with
  | nil => rfl
  | cons x l ih =>
    unfold ofL at ih ⊢
    simp only [List.filter_cons]
    rcases Nat.lt_trichotomy (dig x.k lv) i with h | h | h
    · rw [decide_eq_true (show dig x.k lv < i + 1 by omega), decide_eq_true h, decide_eq_false (show ¬ dig x.k lv = i by omega)]
      simp only [if_true, Bool.false_eq_true, if_false, List.length_cons, ih]; omega
    · rw [decide_eq_true (show dig x.k lv < i + 1 by omega), decide_eq_false (show ¬ dig x.k lv < i by omega), decide_eq_true h]
      simp only [if_true, Bool.false_eq_true, if_false, List.length_cons, ih]; omega
    · rw [decide_eq_false (show ¬ dig x.k lv < i + 1 by omega), decide_eq_false (show ¬ dig x.k lv < i by omega), decide_eq_false (show ¬ dig x.k lv = i by omega)]
      simp only [Bool.false_eq_true, if_false, ih]
theorem lt_len_eq (lv : Nat) (l m : List It) : ∀ i, (∀ j, j < i → (ofL lv j l).length = (ofL lv j m).length) → (l.filter fun x => decide (dig x.k lv < i)).length = (m.filter fun x => decide (dig x.k lv < i)).length
  | 0, _ => by
    rw [List.filter_eq_nil_iff.2 (fun x _ => by simp), List.filter_eq_nil_iff.2 (fun x _ => by simp)]
  | i + 1, h => by rw [lt_succ_len, lt_succ_len, lt_len_eq lv l m i (fun j hj => h j (by omega)), h i (by omega)]
theorem trie_no (hk : k ≤ 9) (h : getA A r = some y) (h2 : y.kind = 2) (hS : TrieS A k y d left i sum) (hi : i < 9) (hbad : 4 ≤ i ∧ ¬ y.kids.getD i 0 = 0 ∨ (∃ n, MayP A k (y.kids.getD i 0) (d + 4 ^ (9 - k) * (i % 4)) (left - sum) n ∧ n < 0)) : MayP A (k + 1) r d left (-1) := by
  refine .inr ⟨rfl, fun m hT => ?_⟩
  obtain ⟨t1, t2, t3, t4⟩ := hT.trie h h2
  obtain ⟨l, q1, q2, q3, q4, q5, q6, q7⟩ := hS
  rcases hbad with ⟨h4, hne⟩ | ⟨n, hP, hn⟩
  · exact hne (t4 i h4 hi)
  · rcases hP with ⟨_, _, rfl⟩ | ⟨_, hP⟩
    · omega
    · by_cases hi4 : 4 ≤ i
      · refine hP [] ?_
        rw [t4 i hi4 hi]
        exact mayT_0 (by omega)
      · refine hP (ofL (9 - k) i m) ⟨t3 i (by omega), ?_, hT.2.2.1.filter _, ?_⟩
        · rw [Nat.mod_eq_of_lt (by omega), show 10 - k = 9 - k + 1 by omega]
          have := hT.2.1
          rw [show 10 - (k + 1) = 9 - k by omega] at this
          exact this.of
        · have e1 : (l.filter fun x => decide (dig x.k (9 - k) < i)) = l := List.filter_eq_self.2 fun x hx => by simpa using q1 x hx
          have e2 := lt_len_eq (9 - k) l m i (fun j hj => by
            have h1 := (q4 j hj (by omega)).size
            have h2 := (t3 j (by omega)).size
            omega)
          rw [e1] at e2
          have e3 := lt_succ_len (9 - k) i m
          have e4 := List.length_filter_le (fun x : It => decide (dig x.k (9 - k) < i + 1)) m
          have := hT.2.2.2
          omega
theorem trie_end (hk : k ≤ 9) (h : getA A r = some y) (h2 : y.kind = 2) (hb : bareH y = y) (hS : TrieS A k y d left 9 sum) : (¬ (sum < 2 ∨ ¬ sum = y.s) → MayP A (k + 1) r d left sum) ∧ (sum < 2 ∨ ¬ sum = y.s → MayP A (k + 1) r d left (-1)) := by
  obtain ⟨l, q1, q2, q3, q4, q5, q6, q7⟩ := hS
  constructor
  · intro hc
    have c1 : ¬ sum < 2 := fun e => hc (.inl e)
    have c2 : sum = y.s := Decidable.not_not.1 fun e => hc (.inr e)
    refine .inl ⟨l, ⟨(isH_trie (by omega)).2 ⟨y.gen, [y.k0, y.k1, y.k2, y.k3], rfl, ?_, fun j hj => ?_⟩, ?_, q3, by omega⟩, q6⟩
    · have := bareH_iff.1 hb
      rw [h2, ← c2, q6] at this
      refine h.trans (congrArg some (kids_ext (ks := [y.k0, y.k1, y.k2, y.k3]) this (fun j hj => ?_)))
      by_cases h4 : 4 ≤ j
      · rw [q5 j h4 hj, List.getD_eq_getElem?_getD, List.getElem?_eq_none (by simpa using h4)]; rfl
      · rcases j with _|_|_|_|j
        all_goals first | rfl | omega
    · have := q4 j (by omega) hj
      rcases j with _|_|_|_|j
      all_goals first | exact this | omega
    · rw [show 10 - (k + 1) = 9 - k by omega]; exact q2
  · intro hc
    refine .inr ⟨rfl, fun m hT => ?_⟩
    obtain ⟨t1, t2, t3, t4⟩ := hT.trie h h2
    have e : l.length = m.length := by
      have h1 := part_len (9 - k) l
      have h2 := part_len (9 - k) m
      have h3 : ∀ j, j < 4 → (ofL (9 - k) j l).length = (ofL (9 - k) j m).length := fun j hj => by
        have h1 := (q4 j (by omega) hj).size
        have h2 := (t3 j hj).size
        omega
      rw [h3 0 (by omega), h3 1 (by omega), h3 2 (by omega), h3 3 (by omega)] at h1
      omega
    omega
theorem MayT.clash (h : getA A r = some y) (h4 : y.kind = 4) (hT : MayT A 0 r d left l) : ∃ m, List.Perm m l ∧ Srt m ∧ 2 ≤ m.length ∧ m.length ≤ 9 ∧ y.s = m.length ∧ (∀ j x, m[j]? = some x → lfA A (y.kids.getD j 0) x) ∧ Fam 10 d m ∧ ∀ j, m.length ≤ j → j < 9 → y.kids.getD j 0 = 0 := by
  rcases hT.cases (getA_nz h) with ⟨x, rfl, hx⟩ | hl
  · have := ((lfA_iff h).1 hx).1; omega
  · obtain ⟨g, ks, m, e1, e2, e3, e4, e5, e6⟩ := (isH_clash hl).1 hT.1
    rw [h] at e5
    cases e5
    refine ⟨m, e1, e2, by rw [e1.length_eq]; exact hl, e3, rfl, fun j x hx => ?_, hT.2.1.perm e1, fun j h1 h9 => ?_⟩
    · have := lt_of_get hx
      rw [hN_kid (by omega)]; exact e6 j x hx
    · rw [hN_kid h9, List.getD_eq_getElem?_getD, List.getElem?_eq_none (by omega)]; rfl
def ClashS (A : Ar) (y : Node) (d i : Nat) (many : Int) : Prop := ∃ m : List It, Srt m ∧ many = m.length ∧ m.length ≤ i ∧ (∀ j x, m[j]? = some x → lfA A (y.kids.getD j 0) x) ∧ Fam 10 d m ∧ ∀ j, m.length ≤ j → j < i → y.kids.getD j 0 = 0
theorem clash_start : ClashS A y d 0 0 := ⟨[], List.Pairwise.nil, rfl, Nat.le_refl _, fun j x h => (by cases h), Fam.nil _ _, fun j _ h => absurd h (by omega)⟩
theorem clash_skip (hS : ClashS A y d i many) (h0 : y.kids.getD i 0 = 0) : ClashS A y d (i + 1) many := by
  obtain ⟨m, q1, q2, q3, q4, q5, q6⟩ := hS
  refine ⟨m, q1, q2, by omega, q4, q5, fun j h1 h2 => ?_⟩
  by_cases e : j = i
  · rw [e]; exact h0
  · exact q6 j h1 (by omega)
theorem clash_step {z : Node} (hS : ClashS A y d i many) (hi : (i : Int) = many) (hz : getA A (y.kids.getD i 0) = some z) (h3 : z.kind = 3) (hP : MayP A 0 (y.kids.getD i 0) d 1 1) (hlt : 0 < i → (getN A (y.kids.getD (i - 1) 0)).n < z.n) : ClashS A y d (i + 1) (many + 1) := by
  obtain ⟨m, q1, q2, q3, q4, q5, q6⟩ := hS
  have hmi : m.length = i := by omega
  rcases hP with ⟨l, ⟨m1, m2, m3, m4⟩, hl⟩ | ⟨h, _⟩
  · have hl1 : l.length = 1 := by omega
    obtain ⟨x, rfl⟩ := List.length_eq_one_iff.1 hl1
    have hx := isH_one.1 m1
    have hx2 := (lfA_iff hz).1 hx
    refine ⟨m ++ [x], ?_, by rw [q2, List.length_append]; rfl, by rw [List.length_append, List.length_singleton]; omega, fun j z' hj => ?_, fun z' hz' => ?_, fun j h1 h2 => absurd h1 (by rw [List.length_append, List.length_singleton]; omega)⟩
    · refine List.pairwise_append.2 ⟨q1, List.pairwise_singleton _ _, fun a ha b hb => ?_⟩
      rw [List.mem_singleton.1 hb]
      have hpos : 0 < m.length := List.length_pos_of_mem ha
      obtain ⟨t, ht⟩ := getSome (l := m) (i := m.length - 1) (by omega)
      have hl2 := q4 _ t ht
      rw [hmi] at hl2
      obtain ⟨g, hg⟩ := hl2.getN
      have h5 := hlt (by omega)
      rw [hg] at h5
      have h6 : t.k < x.k := by rw [← hx2.2.2.1]; exact h5
      obtain ⟨j, hj⟩ := List.getElem?_of_mem ha
      have hjl := lt_of_get hj
      by_cases e : j = m.length - 1
      · rw [e, ht] at hj; cases hj; exact h6
      · have := List.pairwise_iff_getElem.1 q1 j (m.length - 1) (by omega) (by omega) (by omega)
        rw [getElem_of hj, getElem_of ht] at this
        omega
    · by_cases e : j < m.length
      · rw [List.getElem?_append_left e] at hj; exact q4 j z' hj
      · have hjl := lt_of_get hj
        rw [List.length_append, List.length_singleton] at hjl
        obtain rfl : j = m.length := by omega
        rw [List.getElem?_append_right (Nat.le_refl _), Nat.sub_self] at hj
        cases hj
        rw [hmi]; exact hx
    · rcases List.mem_append.1 hz' with h | h
      · exact q5 z' h
      · exact m2 z' h
  · exact absurd h (by decide)
theorem clash_no (h : getA A r = some y) (h4 : y.kind = 4) (hS : ClashS A y d i many) (hi : i < 9) (hr0 : ¬ y.kids.getD i 0 = 0) (hbad : ¬ (i : Int) = many ∨ ¬ (getN A (y.kids.getD i 0)).kind = 3 ∨ (∃ n, MayP A 0 (y.kids.getD i 0) d 1 n ∧ ¬ n = 1) ∨ 0 < i ∧ (getN A (y.kids.getD i 0)).n ≤ (getN A (y.kids.getD (i - 1) 0)).n) : ∀ left l, ¬ MayT A 0 r d left l := by
  intro left l hT
  obtain ⟨m, t1, t2, t3, t4, t5, t6, t7, t8⟩ := hT.clash h h4
  obtain ⟨m', q1, q2, q3, q4, q5, q6⟩ := hS
  have him : i < m.length := Classical.byContradiction fun e => hr0 (t8 i (by omega) hi)
  obtain ⟨x, hx⟩ := getSome him
  have hlx := t6 i x hx
  obtain ⟨g, hg⟩ := hlx.getN
  rcases hbad with hb | hb | ⟨n, hP, hn⟩ | ⟨h0, hb⟩
  · have hz := q6 m'.length (Nat.le_refl _) (by omega)
    obtain ⟨z, hzm⟩ := getSome (l := m) (i := m'.length) (by omega)
    exact (t6 _ z hzm).nz hz
  · rw [hg] at hb; exact hb rfl
  · rcases hP with ⟨l', ⟨m1, _⟩, rfl⟩ | ⟨_, hP⟩
    · have := m1.size
      rw [hlx.size] at this
      exact hn this.symm
    · exact hP [x] ⟨isH_one.2 hlx, fun z hz => by rw [List.mem_singleton.1 hz]; exact t7 x (List.mem_of_getElem? hx), List.pairwise_singleton _ _, by simp⟩
  · obtain ⟨z, hzm⟩ := getSome (l := m) (i := i - 1) (by omega)
    obtain ⟨g2, hg2⟩ := (t6 _ z hzm).getN
    rw [hg, hg2] at hb
    have := List.pairwise_iff_getElem.1 t2 (i - 1) i (by omega) him (by omega)
    rw [getElem_of hzm, getElem_of hx] at this
    simp only [hN] at hb
    omega
theorem clash_end (h : getA A r = some y) (h4 : y.kind = 4) (hb : bareH y = y) (hS : ClashS A y d 9 many) : (¬ (many < 2 ∨ ¬ many = y.s) → many ≤ left → MayP A 0 r d left many) ∧ ((many < 2 ∨ ¬ many = y.s) ∨ left < many → ∀ l, ¬ MayT A 0 r d left l) := by
  obtain ⟨m, q1, q2, q3, q4, q5, q6⟩ := hS
  constructor
  · intro hc hle
    have c1 : ¬ many < 2 := fun e => hc (.inl e)
    have c2 : many = y.s := Decidable.not_not.1 fun e => hc (.inr e)
    refine .inl ⟨m, ⟨(isH_clash (by omega)).2 ⟨y.gen, y.kids.take m.length, m, List.Perm.refl _, q1, q3, ?_, ?_, fun j x hx => ?_⟩, q5, q1.ap, by omega⟩, q2⟩
    · rw [List.length_take]; simp [Node.kids]; omega
    · have := bareH_iff.1 hb
      rw [h4, ← c2, q2] at this
      refine h.trans (congrArg some (kids_ext (ks := y.kids.take m.length) this (fun j hj => ?_)))
      by_cases e : j < m.length
      · rw [List.getD_eq_getElem?_getD, List.getD_eq_getElem?_getD, List.getElem?_take_of_lt e]
      · rw [q6 j (by omega) hj, List.getD_eq_getElem?_getD, List.getElem?_eq_none (by rw [List.length_take]; omega)]; rfl
    · have e := lt_of_get hx
      rw [List.getD_eq_getElem?_getD, List.getElem?_take_of_lt e, ← List.getD_eq_getElem?_getD]
      exact q4 j x hx
  · intro hc l hT
    obtain ⟨m', t1, t2, t3, t4, t5, t6, t7, t8⟩ := hT.clash h h4
    have e1 : m.length = m'.length := by
      rcases Nat.lt_trichotomy m.length m'.length with e | e | e
      · obtain ⟨z, hz⟩ := getSome (l := m') (i := m.length) (by omega)
        exact absurd (q6 m.length (Nat.le_refl _) (by omega)) (t6 _ z hz).nz
      · exact e
      · obtain ⟨z, hz⟩ := getSome (l := m) (i := m'.length) (by omega)
        exact absurd (t8 m'.length (Nat.le_refl _) (by omega)) (q4 _ z hz).nz
    have e2 := t1.length_eq
    have := hT.2.2.2
    omega
end
def isTab (A : Ar) (r : Int) : Prop := AOk A ∧ ∃ l, IsH A 10 r l ∧ Ap l ∧ l.length ≤ 200
theorem isTab_iff {A : Ar} {r n : Int} (hA : AOk A) (h : MayP A 10 r 0 200 n) : 0 ≤ n ↔ isTab A r := by
  rcases h with ⟨l, h, rfl⟩ | ⟨rfl, h⟩
  · exact ⟨fun _ => ⟨hA, l, h.1, h.2.2.1, by have := h.2.2.2; omega⟩, fun _ => by omega⟩
  · refine ⟨fun e => absurd e (by decide), fun e => ?_⟩
    obtain ⟨_, l, h1, h2, h3⟩ := e
    exact absurd ⟨h1, fam_0 l, h2, by omega⟩ (h l)
noncomputable def isTabB (A : Ar) (r : Int) : Bool := @decide (isTab A r) (Classical.propDecidable _)
theorem isTabB_iff (A : Ar) (r : Int) : isTabB A r = true ↔ isTab A r := by unfold isTabB; exact @decide_eq_true_iff _ (Classical.propDecidable _)
theorem isTabB_yes {A : Ar} {r : Int} (h : isTab A r) : isTabB A r = true := (isTabB_iff A r).2 h
theorem isTabB_no {A : Ar} {r : Int} (h : ¬ isTab A r) : isTabB A r = false := by rw [Bool.eq_false_iff]; exact fun e => h ((isTabB_iff A r).1 e)
end Go.Proofs.YtbjmllnddanniaaGreat
set_option linter.unusedVariables false
set_option linter.unusedSimpArgs false
set_option maxRecDepth 4000
namespace Go.Proofs.YtbjmllnddanniaaGreat
open Go Go.XL
theorem take_getD {l : List Int} {i n : Nat} (h : i < n) : (l.take n).getD i 0 = l.getD i 0 := by rw [List.getD_eq_getElem?_getD, List.getElem?_take_of_lt h, ← List.getD_eq_getElem?_getD]
set_option maxHeartbeats 2000000 in
theorem c_hputT (bf : Nat) (key v : Int) (hkey : I64 key) (hv : I64 v) (A0 : Ar) (k lv : Nat) (hk : k ≤ 9) (hlv : lv = 9 - k) (r : Int) (L : List It) (hap : Ap L) (hl2 : 2 ≤ L.length) (hl3 : L.length ≤ 1000) (y : Node) (hy2 : y.kind = 2) (hkids : ∀ j, j < 4 → IsH A0 k (y.kids.getD j 0) (ofL lv j L)) (s : St) (hgy : getN s.1 r = y) (hyo : y.ok) (C : Nat → Prop) (w : World) (hE : Ext A0 s.1) (hA : AOk s.1) (hr : U64 r) (hF : Ft C (Ho bf s C) w)
  (ih : ∀ (r' : Int) (w' : World) (C' : Nat → Prop), IsH A0 k r' (ofL lv (dig key lv) L) → U64 r' → Ft C' (Ho bf s C') w' → FC Tryz.prog 138 [.pointer (some ⟨bf, 0, none⟩), .int .u64 r', .int .i64 ((lv + 1 : Nat) : Int), .int .i64 key, .int .i64 v] w' (PutR bf k (ofL lv (dig key lv) L) key v s C' w')) :
  FC Tryz.prog 138 [.pointer (some ⟨bf, 0, none⟩), .int .u64 r, .int .i64 (lv : Int), .int .i64 key, .int .i64 v] w (PutR bf (k + 1) L key v s C w) := by
 have hCb := hF.now.1
 obtain ⟨i, hi⟩ : ∃ i, dig key lv = i := ⟨_, rfl⟩
 have hi4 : i < 4 := hi ▸ dig_lt _ _
 rw [hi] at ih
 have hkl : (y.kids.take 4).length = 4 := rfl
 obtain ⟨x, hx⟩ := getSome (l := y.kids.take 4) (i := i) (by omega)
 have hkx : y.kids.getD i 0 = x := by rw [← take_getD hi4]; exact (by rw [List.getD_eq_getElem?_getD, hx]; rfl)
 have hxu : U64 x := hyo.kids x (List.mem_of_mem_take (List.mem_of_getElem? hx))
 have hxi := hkids i hi4
 rw [hkx] at hxi
 refine FC.intro Tryz.func138 rfl Tryz.ntmps138 rfl ?_
 have G : Agr (· = bf) w w := Agr.refl _ _
 refine RC.seq (RC.region rfl ?_);refine RL.box rfl rfl rfl (fun b_5 w_5 e_5 z_5 hb_5 s_5 => ?_);have d_hF_b_5 := hF.neNew e_5;have G := G.trans s_5.agr;have hF := hF.sub s_5
 have n5f : b_5 ≠ bf := fun e => d_hF_b_5 bf hCb e.symm
 refine RL.asS rfl ?_;refine RL.nil (RC.back (RC.seq (RC.region rfl ?_)));refine RL.eS (.load1 sh193 rfl (hb_5.cell rfl)) ?_;refine RL.mvS rfl ?_;refine RL.call rfl ok200 ((hgy ▸ c_hget bf s C r hr w_5 hF)) rfl rfl ?_;rintro _ w1 ⟨rfl, s2⟩;have G := G.trans s2.agr;have hF := hF.sub s2;have hb_5 := hb_5.sub s2;refine RL.alloc ze140 rfl rfl (fun b_11 w_11 e_11 z_11 hb_11 s_11 => ?_);have n_5__11 := hb_5.ne e_11;have d_hF_b_11 := hF.neNew e_11
 have geG_11 := agLe G e_11
 have G := G.trans s_11.agr;have hF := hF.sub s_11;have hb_5 := hb_5.sub s_11;refine RL.stS sh140 rfl rfl rfl hb_11 (fun w3 z3 hb_11 a3 => ?_)
 have G := agNew G a3 geG_11
 have hF := hF.updD a3 d_hF_b_11;have hb_5 := hb_5.upd a3 n_5__11
 have hb_11 : Has w3 b_11 (y.cells) _ := hb_11.now (by kernel_rfl)
 refine RL.nil (RC.back (RC.seq (RC.seq (RC.region rfl ?_))));refine RL.eS (.field0 fo140_0 rfl) ?_;refine RL.eS (.load1 sh3 rfl (hb_11.cell rfl)) ?_;refine RL.nil (RC.back (RC.block (RC.seq (RC.region rfl ?_))));refine RL.eS (.as (v' := .bool true) (.bin rfl rfl rfl) (congrArg Value.bool (decide_eq_true (hy2)))) ?_;refine RL.asS rfl ?_;refine RL.nil (RC.back ?_);refine RC.cond_t rfl ?_;refine RC.seq (RC.region rfl ?_);refine RL.eS (.field0 fo140_5 rfl) ?_;refine RL.eS (.sliceArrHi ar138 rfl rfl (by omega)) ?_;refine RL.call rfl ok202 (c_cloneKids y 4 (by decide) (by decide) b_11 _ w3 hb_11) rfl rfl ?_;rintro _ w4 ⟨b_g, ex, rfl, hex, hcap, hge, hb_g, s5⟩
 have lt_11 := hb_11.lt
 have lt_5 := hb_5.lt
 have ltF := hF.lt
 have geG_g := Nat.le_trans G.size hge
 have n_5__g : b_5 ≠ b_g := (by omega)
 have n_g__5 : b_g ≠ b_5 := n_5__g.symm
 have d_hF_b_g : ∀ k, C k → k ≠ b_g := (fun k hk e => by have := ltF k hk; omega)
 have G := G.trans s5.agr;have hF := hF.sub s5;have hb_5 := hb_5.sub s5
 have ngf : b_g ≠ bf := fun e => d_hF_b_g bf hCb e.symm
 refine RL.asS rfl ?_;refine RL.nil (RC.back (RC.seq (RC.region rfl ?_)));refine RL.mvS rfl ?_;refine RL.mvS rfl ?_;refine RL.call rfl ok201 ((hi ▸ c_digit key lv (by omega) w4)) rfl rfl ?_;rintro _ w6 ⟨rfl, s7⟩;have G := G.trans s7.agr;have hF := hF.sub s7;have hb_5 := hb_5.sub s7;have hb_g := hb_g.sub s7;refine RL.asS rfl ?_;refine RL.nil (RC.back (RC.seq ?_));refine RC.drawD (fun k => k = bf ∨ k = b_g) [11, 13] w6.heap.size 14 rfl rfl mxo (fun w8 s9 => ?_);have ltD_b_5 := hb_5.lt;have ltD_b_g := hb_g.lt;have G := G.trans s9.agr;have hF := hF.sub s9;have hb_5 := hb_5.sub s9;have hb_g := hb_g.sub s9;refine RD.tS 0 rfl (fun w' s' => .move rfl) ?_;refine RD.tS 1 rfl (fun w' s' => .move rfl) ?_;refine RD.tS 2 rfl (fun w' s' => .load1 sh193 rfl ((hb_5.step s' (fun e => e.elim (fun e => e.elim (fun e => n5f e) (fun e => n_5__g e)) (fun e => Nat.not_le.2 ltD_b_5 e))).cell rfl)) ?_;refine RD.tS 3 rfl (fun w' s' => .move rfl) ?_;refine RD.tS 4 rfl (fun w' s' => .move rfl) ?_;refine RD.tS 5 rfl (fun w' s' => .indexO sl73 rfl rfl (by omega)) ?_;refine RD.takeL 6 rfl (by kernel_rfl) (by kernel_rfl) (by kernel_rfl) (by kernel_rfl) (fun w' s' => .load1 sh31 rfl ((hb_g.step s' (fun e => Nat.not_le.2 ltD_b_g e)).cell (ks_cellE hex hx))) rfl rfl ?_;refine RD.tS 7 rfl (fun w' s' => .move rfl) ?_;refine RD.tS 8 rfl (fun w' s' => .as (.bin rfl rfl rfl) (wi64 (y := ((lv + 1 : Nat) : Int)) (by omega) (by omega))) ?_;refine RD.tS 9 rfl (fun w' s' => .move rfl) ?_;refine RD.tS 10 rfl (fun w' s' => .move rfl) ?_;refine RD.oneS 11 rfl ?_;refine RL.call rfl ok138 (ih x w8 C hxi hxu hF) rfl rfl ?_;rintro _ w10 ⟨s1, C1, g1, ⟨r1, rfl, hu1, h1⟩, hF1, ag, up⟩;have d_hF_b_g := upNe up d_hF_b_g hb_g.lt
 have up := up.le G.size
 have G := G.trans ag;have hb_5 := hb_5.upd ag n5f;have hb_g := hb_g.upd ag ngf
 have hF := hF1
 refine RD.backW rfl (ag.mono fun k _ e => .inl (.inl e)) ?_;refine RD.tS 12 rfl (fun w' s' => .indexO sl73 rfl rfl (by omega)) ?_;refine RD.oneS 13 rfl ?_;refine RL.store sh31 rfl rfl rfl hb_g (by rw [ks_lenE hex, hkl]; show 0 + i * 1 + 1 ≤ 4 + _; omega) (by rfl) rfl (fun w12 z12 hb_g a12 => ?_)
 have G := agNew G a12 geG_g
 have hF := hF.updD a12 d_hF_b_g;have hb_5 := hb_5.upd a12 n_5__g
 have hb_g := ks_setE hex hb_g (by omega)
 refine RD.backW rfl (a12.mono fun k _ e => e ▸ (.inl (.inr (rfl)))) ?_;refine RD.done (by kernel_rfl) (RC.back ?_);refine RC.seq (RC.region rfl ?_);refine RL.eS (.load1 sh193 rfl (hb_5.cell rfl)) ?_;refine RL.mvS rfl ?_;refine RL.call rfl ok203 (c_hnode bf s1 C1 2 (by unfold I64; decide) ((y.kids.take 4).set i r1) (fun z hz => by rcases List.mem_or_eq_of_mem_set hz with hz | rfl; exact hyo.kids z (List.mem_of_mem_take hz); exact hu1) (by rw [List.length_set]; exact Nat.le_of_ble_eq_true rfl) (some ⟨b_g, 0, none⟩) 4 _ (by rw [List.length_set]; rfl) (· = b_g) w12 hF (ks_ftE hb_g)) rfl rfl ?_;rintro _ w13 ⟨s2, r2, C2, rfl, hm, hF2, ag2, up2⟩
 have up2 := up.trans (up2.le G.size)
 have G := G.trans ag2;refine RL.asS rfl ?_;refine RL.nil (RC.back ?_);refine RC.d1 10 rfl rfl rfl ?_
 obtain ⟨p1, p2⟩ := put_trie (A0 := A0) (ks0 := y.kids.take 4) (r1 := r1) hap hl2 hl3 (hlv ▸ hi) rfl (fun j hj => by rw [take_getD hj, ← hlv]; exact hkids j hj) hE (hlv ▸ g1) (hlv ▸ h1) rfl hm
 exact ⟨s2, C2, p1, ⟨r2, rfl, hm.u64, p2⟩, hF2, G, up2⟩
set_option maxHeartbeats 4000000 in
theorem c_hputC (bf : Nat) (key v : Int) (hkey : I64 key) (hv : I64 v) (A0 : Ar) (r : Int) (L m : List It) (hp : m.Perm L) (hs : Srt m) (hl2 : 2 ≤ m.length) (h9 : m.length ≤ 9) (hRoom : Room key L) (hFam : Fam 10 (hashOf key % 4 ^ 10) L) (y : Node) (hy4 : y.kind = 4) (hlf : ∀ i x, m[i]? = some x → lfA A0 (y.kids.getD i 0) x) (hz : ∀ i, m.length ≤ i → i < 9 → y.kids.getD i 0 = 0) (s : St) (hgy : getN s.1 r = y) (hyo : y.ok) (C : Nat → Prop) (w : World) (hE : Ext A0 s.1) (hA : AOk s.1) (hr : U64 r) (hF : Ft C (Ho bf s C) w) :
    FC Tryz.prog 138 [.pointer (some ⟨bf, 0, none⟩), .int .u64 r, .int .i64 10, .int .i64 key, .int .i64 v] w (PutR bf 0 L key v s C w) := by
  have hCb := hF.now.1
  have hkl : (y.kids.take m.length).length = m.length := by rw [List.length_take]; show min _ 9 = _; omega
  have hkL : kidsL y = y.kids.take m.length := kidsL_take h9 (fun i hi => by obtain ⟨x, hx⟩ := getSome (l := m) hi; exact (hlf i x hx).nz) hz
  have hlf2 : ∀ i x, m[i]? = some x → lfA A0 ((y.kids.take m.length).getD i 0) x := fun i x hx => by rw [take_getD (lt_of_get hx)]; exact hlf i x hx
  have hku : ∀ z ∈ y.kids.take m.length, U64 z := fun z hz => hyo.kids z (List.mem_of_mem_take hz)
  obtain ⟨ks, hks⟩ : ∃ ks, ks = y.kids.take m.length := ⟨_, rfl⟩
  rw [← hks] at hkl hkL hlf2 hku
  have hgk : ∀ (i : Nat) (z : Int) (x : It), ks[i]? = some z → m[i]? = some x → (getN s.1 z).n = x.k := fun i z x h1 h2 => by
    have h3 := hlf2 i x h2
    rw [List.getD_eq_getElem?_getD, h1] at h3
    obtain ⟨g, e⟩ := (h3.ext hE).getN
    have e2 : getN s.1 z = _ := e
    rw [e2]; rfl
  have hmono : ∀ (i j : Nat) (x z : Int), i ≤ j → ks[i]? = some x → ks[j]? = some z → cmpH (getN s.1 z).n key < 0 → cmpH (getN s.1 x).n key < 0 := fun i j x z hij hx hz h => by
    have h1 := lt_of_get hx
    have h2 := lt_of_get hz
    obtain ⟨x', hx'⟩ := getSome (l := m) (i := i) (by omega)
    obtain ⟨z', hz'⟩ := getSome (l := m) (i := j) (by omega)
    rw [cmpH_lt, hgk j z z' hz hz'] at h
    rw [cmpH_lt, hgk i x x' hx hx']
    by_cases e : i = j
    · subst e; rw [hx'] at hz'; cases hz'; exact h
    · have := List.pairwise_iff_getElem.1 hs i j (by omega) (by omega) (by omega)
      rw [getElem_of hx', getElem_of hz'] at this
      omega
  refine FC.intro Tryz.func138 rfl Tryz.ntmps138 rfl ?_
  have G : Agr (· = bf) w w := Agr.refl _ _
  refine RC.seq (RC.region rfl ?_);refine RL.box rfl rfl rfl (fun b_5 w_5 e_5 z_5 hb_5 s_5 => ?_);have d_hF_b_5 := hF.neNew e_5;have G := G.trans s_5.agr;have hF := hF.sub s_5
  have n5f : b_5 ≠ bf := fun e => d_hF_b_5 bf hCb e.symm
  refine RL.asS rfl ?_;refine RL.nil (RC.back (RC.seq (RC.region rfl ?_)));refine RL.eS (.load1 sh193 rfl (hb_5.cell rfl)) ?_;refine RL.mvS rfl ?_;refine RL.call rfl ok200 ((hgy ▸ c_hget bf s C r hr w_5 hF)) rfl rfl ?_;rintro _ w1 ⟨rfl, s2⟩;have G := G.trans s2.agr;have hF := hF.sub s2;have hb_5 := hb_5.sub s2;refine RL.alloc ze140 rfl rfl (fun b_11 w_11 e_11 z_11 hb_11 s_11 => ?_);have n_5__11 := hb_5.ne e_11;have d_hF_b_11 := hF.neNew e_11
  have geG_11 := agLe G e_11
  have G := G.trans s_11.agr;have hF := hF.sub s_11;have hb_5 := hb_5.sub s_11;refine RL.stS sh140 rfl rfl rfl hb_11 (fun w3 z3 hb_11 a3 => ?_)
  have G := agNew G a3 geG_11
  have hF := hF.updD a3 d_hF_b_11;have hb_5 := hb_5.upd a3 n_5__11
  have hb_11 : Has w3 b_11 (y.cells) _ := hb_11.now (by kernel_rfl)
  refine RL.nil (RC.back (RC.seq (RC.seq (RC.region rfl ?_))));refine RL.eS (.field0 fo140_0 rfl) ?_;refine RL.eS (.load1 sh3 rfl (hb_11.cell rfl)) ?_;refine RL.nil (RC.back (RC.block (RC.seq (RC.region rfl ?_))));refine RL.eS (.as (v' := .bool false) (.bin rfl rfl rfl) (congrArg Value.bool (decide_eq_false (by omega)))) ?_;refine RL.asS rfl ?_;refine RL.nil (RC.back ?_);refine RC.cond_f rfl ?_;refine RC.seq (RC.region rfl ?_);refine RL.eS (.as (v' := .bool true) (.bin rfl rfl rfl) (congrArg Value.bool (decide_eq_true (hy4)))) ?_;refine RL.asS rfl ?_;refine RL.nil (RC.back ?_);refine RC.cond_t rfl ?_;refine RC.seq (RC.region rfl ?_);refine RL.eS (.load1 sh193 rfl (hb_5.cell rfl)) ?_;refine RL.eS (.loadR (y.cells) sh140 rfl (hb_11.row) rfl) ?_;refine RL.call rfl ok204 (c_leaves bf y w3) rfl rfl ?_;rintro _ w4 ⟨b_g, ex, rfl, hex, hcap, hge, hb_g, s5⟩
  have lt_11 := hb_11.lt
  have lt_5 := hb_5.lt
  have ltF := hF.lt
  have geG_g := Nat.le_trans G.size hge
  have n_5__g : b_5 ≠ b_g := (by omega)
  have n_g__5 : b_g ≠ b_5 := n_5__g.symm
  have d_hF_b_g : ∀ k, C k → k ≠ b_g := (fun k hk e => by have := ltF k hk; omega)
  have G := G.trans s5.agr;have hF := hF.sub s5;have hb_5 := hb_5.sub s5
  have ngf : b_g ≠ bf := fun e => d_hF_b_g bf hCb e.symm
  rw [hkL] at hb_g hcap ⊢
  refine RL.asS rfl ?_;refine RL.nil (RC.back (RC.seq (RC.region rfl ?_)));refine RL.mvS rfl ?_;refine RL.mvS rfl ?_;refine RL.eS (.func (xs := []) (ys := [_]) rfl rfl) ?_;refine RL.call rfl ok205 (c_bsfR 206 ok206 key (fun z => cmpH (getN s.1 z).n key) [] [.pointer (some ⟨b_5, 0, none⟩)] ks hmono (some ⟨b_g, 0, none⟩) (ks.length + ex.length) ks.length rfl w4 (fun z hz w' s' => c_put1H bf b_5 s C z key (hku z hz) w' (hF.sub s') (hb_5.sub s')) (wh_slR hb_g) (by omega)) rfl rfl ?_;rintro _ w6 ⟨s7, n, hn, rfl, hn1, hn2⟩;have G := G.trans s7.agr;have hF := hF.sub s7;have hb_5 := hb_5.sub s7;have hb_g := hb_g.sub s7
  have hm1 : ∀ j x, j < n → m[j]? = some x → x.k < key := (fun j x hj hx => by obtain ⟨z, hz⟩ := getSome (l := ks) (i := j) (by omega); have q := hn1 j z hj hz; rw [cmpH_lt, hgk j z x hz hx] at q; exact q)
  have hm2 : ∀ j x, n ≤ j → m[j]? = some x → ¬ x.k < key := (fun j x hj hx => by have := lt_of_get hx; obtain ⟨z, hz⟩ := getSome (l := ks) (i := j) (by omega); have q := hn2 j z hj hz; rw [cmpH_lt, hgk j z x hz hx] at q; exact q)
  have hm3 : (∃ z, ks[n]? = some z ∧ cmpH (getN s.1 z).n key = 0) ↔ ∃ x, m[n]? = some x ∧ x.k = key := ⟨fun ⟨z, hz, e⟩ => by have := lt_of_get hz; obtain ⟨x, hx⟩ := getSome (l := m) (i := n) (by omega); exact ⟨x, hx, by rw [cmpH_eq, hgk n z x hz hx] at e; exact e⟩, fun ⟨x, hx, e⟩ => by have := lt_of_get hx; obtain ⟨z, hz⟩ := getSome (l := ks) (i := n) (by omega); exact ⟨z, hz, by rw [cmpH_eq, hgk n z x hz hx]; exact e⟩⟩
  refine RL.mvS rfl ?_;refine RL.eS (.extract rfl rfl) ?_;refine RL.eS (.extract rfl rfl) ?_;refine RL.asS rfl ?_;refine RL.asS rfl ?_;refine RL.nil (RC.back (RC.seq (RC.region rfl ?_)));refine RL.eS (.load1 sh193 rfl (hb_5.cell rfl)) ?_;refine RL.mvS rfl ?_;refine RL.mvS rfl ?_;refine RL.call rfl ok207 (c_hleaf bf s C key v hkey hv w6 hF) rfl rfl ?_;rintro _ w8 ⟨s1, r1, C1, rfl, hmk, hF1, ag, up⟩;have d_hF_b_g := upNe up d_hF_b_g hb_g.lt
  have up := up.le G.size
  have G := G.trans ag;have hb_5 := hb_5.upd ag n5f;have hb_g := hb_g.upd ag ngf
  have hF := hF1
  refine RL.asS rfl ?_;refine RL.nil (RC.back (RC.seq (RC.seq (RC.region rfl ?_))));refine RL.mvS rfl ?_;refine RL.nil (RC.back ?_);refine RC.cond rfl (fun h10 => ?_) (fun h10 => ?_)
  ·
    obtain ⟨xk, hxk, hxkk⟩ := hm3.1 ((pRB_iff _).1 h10)
    have hnl := lt_of_get hxk
    refine RC.region rfl ?_;refine RL.mvS rfl ?_;refine RL.mvS rfl ?_;refine RL.mvS rfl ?_;refine RL.eS (.indexO sl73 rfl rfl (by omega)) ?_;refine RL.store sh31 rfl rfl rfl hb_g (by rw [ks_lenE hex]; show 0 + n * 1 + 1 ≤ _; omega) (by rfl) rfl (fun w11 z11 hb_g a11 => ?_)
    have G := agNew G a11 geG_g
    have hF := hF.updD a11 d_hF_b_g;have hb_5 := hb_5.upd a11 n_5__g
    have hb_g := ks_setE hex hb_g (by omega)
    have hK := ks_ftE hb_g
    have hKu : ∀ z ∈ ks.set n r1, U64 z := (fun z hz => (List.mem_or_eq_of_mem_set hz).elim (hku z) (fun e => by rw [e]; exact hmk.u64))
    have hKl : (ks.set n r1).length ≤ 9 := (by rw [List.length_set]; omega)
    have hKm : ks.length = (ks.set n r1).length := (List.length_set).symm
    have hKd : (∃ x, m[n]? = some x ∧ x.k = key) ∧ (ks.set n r1) = ks.set n r1 ∨ (∀ x, m[n]? = some x → ¬ x.k = key) ∧ m.length ≤ 8 ∧ (ks.set n r1) = ks.take n ++ r1 :: ks.drop n := .inl ⟨⟨xk, hxk, hxkk⟩, rfl⟩
    refine RL.nil (RC.back (RC.seq (RC.region rfl ?_)));refine RL.eS (.load1 sh193 rfl (hb_5.cell rfl)) ?_;refine RL.mvS rfl ?_;refine RL.call rfl ok203 (c_hnode bf s1 C1 4 (by unfold I64; decide) _ hKu hKl _ _ _ hKm _ w11 hF hK) rfl rfl ?_;rintro _ w12 ⟨s2, r2, C2, rfl, hm, hF2, ag2, up2⟩
    have up2 := up.trans (up2.le G.size)
    have G := G.trans ag2;refine RL.asS rfl ?_;refine RL.nil (RC.back ?_);refine RC.d1 10 rfl rfl rfl ?_
    obtain ⟨p1, p2⟩ := put_clash hp hs hkl hl2 h9 hA hE hlf2 hmk (by omega) hm1 hm2 hKd hm
    exact ⟨s2, C2, p1, ⟨r2, rfl, hm.u64, p2⟩, hF2, G, up2⟩
  ·
    have hnot : ∀ x, m[n]? = some x → ¬ x.k = key := (fun x hx e => by have h2 := h10; rw [pRB_yes (hm3.2 ⟨x, hx, e⟩)] at h2; cases h2)
    have h8 : m.length ≤ 8 := (by rw [hp.length_eq]; exact Room.last hRoom hFam (by rw [← hasK_perm hp]; exact ((srt_place hs key (by omega) hm1 hm2).2.2 hnot).2))
    refine RC.seq (RC.region rfl ?_);refine RL.mvS rfl ?_;refine RL.eS (.len sl73 rfl) ?_;refine RL.eS (.as (v' := .bool true) (.bin rfl rfl rfl) (congrArg Value.bool (decide_eq_true (by omega)))) ?_;refine RL.nil (RC.back ?_);refine RC.cond_t rfl ?_;refine RC.region rfl ?_;refine RL.mvS rfl ?_;refine RL.mvS rfl ?_;refine RL.mvS rfl ?_;refine RL.buildSlice1 sl73 _ ze31 rfl rfl rfl rfl rfl rfl rfl (fun b_74 w_74 e_74 z_74 hb_74 s_74 => ?_);have n_g__74 := hb_g.ne e_74;have G := G.trans s_74.agr;have hF := hF.sub s_74;have hb_5 := hb_5.sub s_74;have hb_g := hb_g.sub s_74;refine RL.call rfl ok208 (c_insertR ks r1 b_g (some ⟨b_g, 0, none⟩) (ks.length + ex.length) b_74 n w_74 (by have q := Ows.of_has (base := b_g) (cap := ks.length + ex.length) (rows := ks.map rC) (extra := ex.flatten) (by rw [← List.flatten_append]; exact hb_g) it_rowsR (Nat.le_refl _) (by rw [List.length_map]; omega) hcap (by rw [← List.flatten_append, ks_lenE hex]; omega); rw [List.length_map] at q; exact q) (Nat.le_of_lt hb_g.lt) hcap (by omega) (by omega) hb_74 (fun k hk => by cases hk; exact n_g__74)) rfl rfl ?_;rintro _ w14 ⟨a75, c75, M75, rfl, hc75, hK, hM75, ag75⟩
    have ag75 : Agr (· = b_g) _ _ := ag75.mono (fun k _ e => by cases e; rfl)
    have G := agNew G ag75 geG_g
    have hF := hF.updD ag75 d_hF_b_g;have hb_5 := hb_5.upd ag75 n_5__g
    have hKu : ∀ z ∈ ks.take n ++ r1 :: ks.drop n, U64 z := (fun z hz => (List.mem_append.1 hz).elim (fun h => hku z (List.mem_of_mem_take h)) (fun h => (List.mem_cons.1 h).elim (fun e => by rw [e]; exact hmk.u64) (fun h => hku z (List.mem_of_mem_drop h))))
    have hKm : ks.length + 1 = (ks.take n ++ r1 :: ks.drop n).length := (by rw [List.length_append, List.length_cons, List.length_take, List.length_drop]; omega)
    have hKl : (ks.take n ++ r1 :: ks.drop n).length ≤ 9 := (by omega)
    have hKd : (∃ x, m[n]? = some x ∧ x.k = key) ∧ (ks.take n ++ r1 :: ks.drop n) = ks.set n r1 ∨ (∀ x, m[n]? = some x → ¬ x.k = key) ∧ m.length ≤ 8 ∧ (ks.take n ++ r1 :: ks.drop n) = ks.take n ++ r1 :: ks.drop n := .inr ⟨hnot, h8, rfl⟩
    refine RL.asS rfl ?_;refine RL.nil (RC.back (RC.seq (RC.region rfl ?_)));refine RL.eS (.load1 sh193 rfl (hb_5.cell rfl)) ?_;refine RL.mvS rfl ?_;refine RL.call rfl ok203 (c_hnode bf s1 C1 4 (by unfold I64; decide) _ hKu hKl _ _ _ hKm _ w14 hF hK) rfl rfl ?_;rintro _ w16 ⟨s2, r2, C2, rfl, hm, hF2, ag2, up2⟩
    have up2 := up.trans (up2.le G.size)
    have G := G.trans ag2;refine RL.asS rfl ?_;refine RL.nil (RC.back ?_);refine RC.d1 10 rfl rfl rfl ?_
    obtain ⟨p1, p2⟩ := put_clash hp hs hkl hl2 h9 hA hE hlf2 hmk (by omega) hm1 hm2 hKd hm
    exact ⟨s2, C2, p1, ⟨r2, rfl, hm.u64, p2⟩, hF2, G, up2⟩
theorem clash_node {A : Ar} {r : Int} {L : List It} (h : Clash A r L) (hl : 2 ≤ L.length) : ∃ y m, getA A r = some y ∧ y.kind = 4 ∧ y.s = L.length ∧ List.Perm m L ∧ Srt m ∧ 2 ≤ m.length ∧ m.length ≤ 9 ∧ (∀ i x, m[i]? = some x → lfA A (y.kids.getD i 0) x) ∧ ∀ i, m.length ≤ i → i < 9 → y.kids.getD i 0 = 0 := by
  obtain ⟨g, ks, m, h1, h2, h3, h4, h5, h6⟩ := h
  refine ⟨_, m, h5, rfl, by rw [← h1.length_eq]; rfl, h1, h2, by rw [h1.length_eq]; exact hl, h3, fun i x hx => ?_, fun i hi h9 => ?_⟩
  · have := lt_of_get hx
    rw [hN_kid (by omega)]; exact h6 i x hx
  · rw [hN_kid h9, List.getD_eq_getElem?_getD, List.getElem?_eq_none (by omega)]; rfl
theorem trie_node {A : Ar} {k : Nat} {r : Int} {L : List It} (h : IsH A (k + 1) r L) (hl : 2 ≤ L.length) : ∃ y, getA A r = some y ∧ y.kind = 2 ∧ y.s = L.length ∧ ∀ i, i < 4 → IsH A k (y.kids.getD i 0) (ofL (9 - k) i L) := by
  obtain ⟨g, ks, h1, h2, h3⟩ := (isH_trie hl).1 h
  exact ⟨_, h2, rfl, rfl, fun i hi => by rw [hN_kid (by omega)]; exact h3 i hi⟩
theorem Fam.key {lv : Nat} {key : Int} {L : List It} (h : Fam lv (hashOf key % 4 ^ lv) L) : Fam (lv + 1) (hashOf key % 4 ^ (lv + 1)) (ofL lv (dig key lv) L) := by
  rw [hash_succ]; exact h.of
theorem ofL_len (lv i : Nat) (L : List It) : (ofL lv i L).length ≤ L.length := List.length_filter_le _ _
theorem c_hput (bf : Nat) (key v : Int) (hkey : I64 key) (hv : I64 v) (A0 : Ar) : ∀ (k lv : Nat) (r : Int) (L : List It) (s : St) (C : Nat → Prop) (w : World), k ≤ 10 → lv = 10 - k → IsH A0 k r L → Ap L → Fam lv (hashOf key % 4 ^ lv) L → Room key L → L.length ≤ 1000 → Ext A0 s.1 → AOk s.1 → U64 r → Ft C (Ho bf s C) w →
    FC Tryz.prog 138 [.pointer (some ⟨bf, 0, none⟩), .int .u64 r, .int .i64 (lv : Int), .int .i64 key, .int .i64 v] w (PutR bf k L key v s C w)
  | k, lv, r, L, s, C, w, hk, hlv, hL, hap, hfam, hroom, hl, hE, hA, hr, hF => by
    by_cases h1 : L.length ≤ 1
    · exact c_hputF bf key v hkey hv k lv r L s C w hk hlv (hL.ext hE) h1 hA hr hF
    · have h2 : 2 ≤ L.length := by omega
      cases k with
      | zero =>
        obtain rfl : lv = 10 := by omega
        obtain ⟨y, m, q1, q2, _, q3, q4, q5, q6, q7, q8⟩ := clash_node ((isH_clash h2).1 hL) h2
        exact c_hputC bf key v hkey hv A0 r L m q3 q4 q5 q6 hroom hfam y q2 q7 q8 s (getN_yes (hE.get q1)) (hF.now.nok y (getA_nok (hE.get q1))) C w hE hA hr hF
      | succ k =>
        obtain ⟨y, q1, q2, _, q4⟩ := trie_node hL h2
        have e : 9 - k = lv := by omega
        rw [e] at q4
        exact c_hputT bf key v hkey hv A0 k lv (by omega) (by omega) r L hap h2 hl y q2 q4 s (getN_yes (hE.get q1)) (hF.now.nok y (getA_nok (hE.get q1))) C w hE hA hr hF
          (fun r' w' C' g1 g2 g3 => c_hput bf key v hkey hv A0 k (lv + 1) r' _ s C' w' (by omega) (by omega) g1 (hap.of _ _) hfam.key hroom.of (Nat.le_trans (ofL_len _ _ _) hl) hE hA g2 g3)
theorem shl_1 (lv : Nat) (h : lv ≤ 10) : Value.int .i64 (IntKind.i64.wrap (1 * 2 ^ min (Int.toNat ((2 * lv : Nat) : Int)) IntKind.i64.bits)) = .int .i64 ((4 ^ lv : Nat) : Int) := by
  congr 1
  rw [show min (Int.toNat ((2 * lv : Nat) : Int)) IntKind.i64.bits = 2 * lv by simp [IntKind.bits]; omega]
  have h2 : ((2 : Int) ^ (2 * lv)) = ((4 ^ lv : Nat) : Int) := by rw [Int.natCast_pow, Int.pow_mul]; rfl
  have h3 : 4 ^ lv ≤ 1048576 := Nat.pow_le_pow_right (n := 4) (by decide) h
  rw [h2, Int.one_mul]
  generalize 4 ^ lv = q at h3 ⊢
  rw [IntKind.wrap_i64]
  omega
theorem shl_n (n lv : Nat) (hn : n < 4) (h : lv ≤ 10) : Value.int .i64 (IntKind.i64.wrap ((n : Int) * 2 ^ min (Int.toNat ((2 * lv : Nat) : Int)) IntKind.i64.bits)) = .int .i64 ((4 ^ lv * n : Nat) : Int) := by
  congr 1
  rw [show min (Int.toNat ((2 * lv : Nat) : Int)) IntKind.i64.bits = 2 * lv by simp [IntKind.bits]; omega]
  have h2 : ((2 : Int) ^ (2 * lv)) = ((4 ^ lv : Nat) : Int) := by rw [Int.natCast_pow, Int.pow_mul]; rfl
  have h3 : 4 ^ lv ≤ 4 ^ 10 := Nat.pow_le_pow_right (by decide) h
  have h5 : (4 : Nat) ^ 10 = 1048576 := rfl
  have h6 : n * 4 ^ lv ≤ 3 * 1048576 := Nat.mul_le_mul (by omega) (by omega)
  rw [h2, ← Int.natCast_mul, Nat.mul_comm (4 ^ lv) n, IntKind.wrap_i64]
  omega
theorem and_low (n lv : Nat) (h : lv ≤ 10) : Value.int .i64 (IntKind.i64.wrap ((BitVec.ofInt 64 (n : Int) &&& BitVec.ofInt 64 ((4 ^ lv - 1 : Nat) : Int)).toNat : Int)) = .int .i64 ((n % 4 ^ lv : Nat) : Int) := by
  congr 1
  have h3 : 4 ^ lv ≤ 4 ^ 10 := Nat.pow_le_pow_right (by decide) h
  have h4 : 0 < 4 ^ lv := Nat.pow_pos (by decide)
  have h5 : (4 : Nat) ^ 10 = 1048576 := rfl
  have e4 : 4 ^ lv = 2 ^ (2 * lv) := by rw [Nat.pow_mul]
  have h2 : (BitVec.ofInt 64 (n : Int) &&& BitVec.ofInt 64 ((4 ^ lv - 1 : Nat) : Int)).toNat = n % 4 ^ lv := by
    rw [BitVec.toNat_and, BitVec.ofInt_natCast, BitVec.ofInt_natCast, BitVec.toNat_ofNat, BitVec.toNat_ofNat, Nat.mod_eq_of_lt (show 4 ^ lv - 1 < 2 ^ 64 by omega), e4, Nat.and_two_pow_sub_one_eq_mod, ← e4]
    exact Nat.mod_mod_of_dvd n (by rw [e4]; exact Nat.pow_dvd_pow 2 (by omega))
  have h6 : n % 4 ^ lv < 4 ^ lv := Nat.mod_lt _ h4
  rw [h2, IntKind.wrap_i64]
  omega
theorem or_add (d lv n : Nat) (hd : d < 4 ^ lv) (hn : n < 4) (h : lv ≤ 10) : Value.int .i64 (IntKind.i64.wrap ((BitVec.ofInt 64 (d : Int) ||| BitVec.ofInt 64 ((4 ^ lv * n : Nat) : Int)).toNat : Int)) = .int .i64 ((d + 4 ^ lv * n : Nat) : Int) := by
  congr 1
  have h3 : 4 ^ lv ≤ 4 ^ 10 := Nat.pow_le_pow_right (by decide) h
  have h5 : (4 : Nat) ^ 10 = 1048576 := rfl
  have e4 : 4 ^ lv = 2 ^ (2 * lv) := by rw [Nat.pow_mul]
  have h6 : 4 ^ lv * n ≤ 1048576 * 3 := Nat.mul_le_mul (by omega) (by omega)
  have h2 : (BitVec.ofInt 64 (d : Int) ||| BitVec.ofInt 64 ((4 ^ lv * n : Nat) : Int)).toNat = d + 4 ^ lv * n := by
    rw [BitVec.toNat_or, BitVec.ofInt_natCast, BitVec.ofInt_natCast, BitVec.toNat_ofNat, BitVec.toNat_ofNat, Nat.mod_eq_of_lt (show d < 2 ^ 64 by omega), Nat.mod_eq_of_lt (show 4 ^ lv * n < 2 ^ 64 by omega)]
    rw [e4] at hd ⊢
    rw [Nat.mul_comm, ← Nat.shiftLeft_eq, Nat.or_comm, ← Nat.shiftLeft_add_eq_or_of_lt hd, Nat.add_comm]
  rw [h2, IntKind.wrap_i64]
  omega
theorem ne_leaf {y : Node} : (!eqL y.cells (leafH y).cells) = true ↔ ¬ leafH y = y := by
  rw [eqL_cells, Bool.not_eq_true', decide_eq_false_iff_not]
  exact ⟨fun h e => h e.symm, fun h e => h e.symm⟩
theorem ne_bare {y : Node} : (!eqL y.cells (bareH y).cells) = true ↔ ¬ bareH y = y := by
  rw [eqL_cells, Bool.not_eq_true', decide_eq_false_iff_not]
  exact ⟨fun h e => h e.symm, fun h e => h e.symm⟩
def MayR (P : Int → Prop) (w : World) (v : Value) (w' : World) : Prop := ∃ n, v = .int .i64 n ∧ P n ∧ Sub w w'
set_option maxHeartbeats 1000000 in
theorem c_mayG (bf : Nat) (s : St) (C : Nat → Prop) (k lv : Nat) (hk : k ≤ 10) (hlv : lv = 10 - k) (r : Int) (hr : U64 r) (d : Nat) (left : Int) (h0 : 0 ≤ left) (w : World) (hF : Ft C (Ho bf s C) w)
  (hT : ∀ y, getA s.1 r = some y → y.kind = 2 → bareH y = y → ¬ k = 0 → 0 < left → ∀ w', Sub w w' → FC Tryz.prog 184 [.pointer (some ⟨bf, 0, none⟩), y.val, .int .i64 (lv : Int), .int .i64 (d : Int), .int .i64 left] w' (MayR (MayP s.1 k r d left) w'))
  (hC : ∀ y, getA s.1 r = some y → y.kind = 4 → bareH y = y → k = 0 → 0 < left → ∀ w', Sub w w' → FC Tryz.prog 185 [.pointer (some ⟨bf, 0, none⟩), y.val, .int .i64 (d : Int)] w' (MayR (fun n => (n ≤ left → MayP s.1 k r d left n) ∧ (left < n → MayP s.1 k r d left (-1))) w')) :
  FC Tryz.prog 110 [.pointer (some ⟨bf, 0, none⟩), .int .u64 r, .int .i64 (lv : Int), .int .i64 (d : Int), .int .i64 left] w (MayR (MayP s.1 k r d left) w) := by
 obtain ⟨hCb, na, fa, nc, fc, M, hbf, hnc, hfc, hA, hMb, hMC⟩ := hF.now
 obtain ⟨y, e, hgv, hgs, hgn⟩ := getV_form2 s.1 r
 have hA := hA.now
 refine FC.intro Tryz.func110 rfl Tryz.ntmps110 rfl ?_
 have S := Sub.refl w
 refine RC.seq (RC.region rfl ?_);refine RL.asS rfl ?_;refine RL.nil (RC.back (RC.seq (RC.seq (RC.region rfl ?_))));refine RL.mvS rfl ?_;refine RL.eS (.bin rfl rfl rfl) ?_;refine RL.nil (RC.back ?_);refine RC.cond_dec rfl (fun h1 => ?_) (fun h1 => ?_)
 ·
  have hres : MayP s.1 k r d left 0 := (by rw [h1]; exact mayP_0 h0)
  refine RC.seq (RC.region rfl ?_);refine RL.asS rfl ?_;refine RL.nil (RC.back ?_);refine RC.d1 10 rfl rfl rfl ?_
  exact ⟨_, rfl, hres, S⟩
 ·
  have hr0 := h1
  refine RC.skip (RC.back (RC.seq (RC.region rfl ?_)));refine RL.mvS rfl ?_;refine RL.eS (.nilCheck rfl) ?_;refine RL.eS (.field0 fo195_0 rfl) ?_;refine RL.eS (.loadR (wvA na fa nc fc s.1) sh26 rfl (row_pref (xs := wvA na fa nc fc s.1) (ys := [.int .i64 s.2]) hbf) rfl) ?_;refine RL.mvS rfl ?_;refine RL.call rfl ok125 (c_aGet s.1 na fa nc fc r hr w (hA.sub S)) rfl rfl ?_;rintro _ w2 ⟨rfl, s3⟩;have S := S.trans s3;refine RL.eS (.as (v' := .tuple #[y.val, .int .i64 e]) (.move rfl) (by rw [hgv])) ?_;refine RL.eS (.extract rfl rfl) ?_;refine RL.eS (.extract rfl rfl) ?_;refine RL.alloc ze140 rfl rfl (fun b_11 w_11 e_11 z_11 hb_11 s_11 => ?_);have ge_11 := S.le e_11;have S := S.trans s_11;refine RL.stS sh140 rfl rfl rfl hb_11 (fun w4 z4 hb_11 a4 => ?_);have S := S.upd a4 ge_11
  have hb_11 : Has w4 b_11 (y.cells) _ := hb_11.now (by kernel_rfl)
  refine RL.asS rfl ?_;refine RL.nil (RC.back (RC.seq (RC.seq (RC.region rfl ?_))));refine RL.mvS rfl ?_;refine RL.eS (.bin rfl rfl rfl) ?_;refine RL.mvS rfl ?_;refine RL.split 28 rfl (fun h5 => ?_) (fun h5 => ?_)
  ·
   have hres : MayP s.1 k r d left (-1) := mayP_bad hr0 (.inl (by cases hg : getA s.1 r with | none => rfl | some x => exact absurd (hgs x hg).2 h5))
   refine RL.offs 2 rfl ?_;refine RL.eS (.pick_t rfl rfl) ?_;refine RL.nil (RC.back ?_);refine RC.cond_t rfl ?_;refine RC.seq (RC.region rfl ?_);refine RL.asS rfl ?_;refine RL.nil (RC.back ?_);refine RC.d1 10 rfl rfl rfl ?_
   exact ⟨_, rfl, hres, S⟩
  ·
   have hy : getA s.1 r = some y := (by cases hg : getA s.1 r with | none => have := (hgn hg).2; omega | some x => rw [(hgs x hg).1])
   refine RL.mvS rfl ?_;refine RL.eS (.bin rfl rfl rfl) ?_;refine RL.eS (.pick_f rfl rfl) ?_;refine RL.nil (RC.back ?_);refine RC.cond_dec rfl (fun h6 => ?_) (fun h6 => ?_)
   ·
    have hres : MayP s.1 k r d left (-1) := mayP_bad hr0 (.inr h6)
    refine RC.seq (RC.region rfl ?_);refine RL.asS rfl ?_;refine RL.nil (RC.back ?_);refine RC.d1 10 rfl rfl rfl ?_
    exact ⟨_, rfl, hres, S⟩
   ·
    have hl0 : 0 < left := (by omega)
    refine RC.skip (RC.back (RC.seq (RC.region rfl ?_)));refine RL.eS (.field0 fo140_0 rfl) ?_;refine RL.eS (.load1 sh3 rfl (hb_11.cell rfl)) ?_;refine RL.eS (.field0 fo140_1 rfl) ?_;refine RL.eS (.load1 sh3 rfl (hb_11.cell rfl)) ?_;refine RL.eS (.field0 fo140_5 rfl) ?_;refine RL.eS (.as (v' := .agg (y.kids.map u6).toArray) (.loadR (y.kids.map u6) sh138 rfl (Has.row_at (pre := [i6 y.kind, i6 y.gen, i6 y.n, i6 y.v, i6 y.s]) (mid := y.kids.map u6) (post := [i6 y.pre, i6 y.suf]) hb_11 rfl) rfl) (by rfl)) ?_;refine RL.eS (.field0 fo140_4 rfl) ?_;refine RL.eS (.load1 sh2 rfl (hb_11.cell rfl)) ?_;refine RL.eS (.buildS (vs := [(0, i6 y.kind), (1, i6 y.gen), (5, .agg (y.kids.map u6).toArray), (4, i6 y.s)]) (cs := (bareH y).cells.toArray) ze140 pl140 rfl (by kernel_rfl)) ?_;refine RL.alloc ze140 rfl rfl (fun b_13 w_13 e_13 z_13 hb_13 s_13 => ?_);have ge_13 := S.le e_13;have n_11__13 := hb_11.ne e_13;have S := S.trans s_13;have hb_11 := hb_11.sub s_13;refine RL.stS sh140 rfl rfl rfl hb_13 (fun w7 z7 hb_13 a7 => ?_);have S := S.upd a7 ge_13;have hb_11 := hb_11.upd a7 n_11__13
    have hb_13 : Has w7 b_13 ((bareH y).cells) _ := hb_13.now (by kernel_rfl)
    refine RL.nil (RC.back (RC.seq (RC.seq (RC.region rfl ?_))));refine RL.eS (.field0 fo140_0 rfl) ?_;refine RL.eS (.load1 sh3 rfl (hb_11.cell rfl)) ?_;refine RL.nil (RC.back (RC.block (RC.seq (RC.region rfl ?_))));refine RL.eS (.bin rfl rfl rfl) ?_;refine RL.asS rfl ?_;refine RL.nil (RC.back ?_);refine RC.cond_dec rfl (fun h8 => ?_) (fun h8 => ?_)
    ·
     have h3 := h8
     refine RC.seq (RC.region rfl ?_);refine RL.eS (.field0 fo140_0 rfl) ?_;refine RL.eS (.load1 sh3 rfl (hb_11.cell rfl)) ?_;refine RL.eS (.field0 fo140_1 rfl) ?_;refine RL.eS (.load1 sh3 rfl (hb_11.cell rfl)) ?_;refine RL.eS (.field0 fo140_2 rfl) ?_;refine RL.eS (.load1 sh2 rfl (hb_11.cell rfl)) ?_;refine RL.eS (.field0 fo140_3 rfl) ?_;refine RL.eS (.load1 sh2 rfl (hb_11.cell rfl)) ?_;refine RL.eS (.buildS ze140 pl140 rfl rfl) ?_;refine RL.stS sh140 rfl rfl rfl hb_13 (fun w9 z9 hb_13 a9 => ?_);have S := S.upd a9 ge_13;have hb_11 := hb_11.upd a9 n_11__13
     have hb_13 : Has w9 b_13 ((leafH y).cells) _ := hb_13.now (by kernel_rfl)
     refine RL.nil (RC.back (RC.seq (RC.seq ?_)));refine RC.draw rfl mxo (by kernel_rfl) ?_;refine RQ.ev (.loadR (y.cells) sh140 rfl hb_11.row rfl) rfl rfl ?_;refine RQ.ev (.loadR ((leafH y).cells) sh140 rfl hb_13.row rfl) rfl rfl ?_;refine RQ.ev (.neS (xs := y.cells) (ys := (leafH y).cells) fk140 eg140 sh140 rfl rfl rfl rfl rfl) rfl rfl ?_;refine RQ.ev (.move rfl) rfl rfl ?_;refine RQ.splitB 57 rfl (fun h10 => ?_) (fun h10 => ?_)
     ·
      have hres : MayP s.1 k r d left (-1) := (mayP_leaf (k := k) (d := d) hr0 hy h3 hl0).2 (fun q => ne_leaf.1 h10 q.1)
      refine RQ.oS ?_;refine RQ.oS ?_;refine RQ.oS ?_;refine RQ.oS ?_;refine RQ.oS ?_;refine RQ.oS ?_;refine RQ.oS ?_;refine RQ.oS ?_;refine RQ.oS ?_;refine RQ.oS ?_;refine RQ.ev (.pick_t rfl rfl) rfl rfl ?_;refine RQ.nil (fun w11 s12 => RC.back ?_);have S := S.trans s12;have hb_11 := hb_11.sub s12;have hb_13 := hb_13.sub s12;refine RC.cond_t rfl ?_;refine RC.seq (RC.region rfl ?_);refine RL.asS rfl ?_;refine RL.nil (RC.back ?_);refine RC.d1 10 rfl rfl rfl ?_
      exact ⟨_, rfl, hres, S⟩
     ·
      have hlf : leafH y = y := Decidable.not_not.1 (fun q => by have h2 := h10; rw [ne_leaf.2 q] at h2; cases h2)
      refine RQ.ev (.field0 fo140_2 rfl) rfl rfl ?_;refine RQ.ev (.load1 sh2 rfl (hb_11.cell rfl)) rfl rfl ?_;refine RQ.call rfl ok183 (fun w' s' => c_hash y.n w') rfl rfl ?_;refine RQ.ev (.move rfl) rfl rfl ?_;refine RQ.ev (.as (.bin rfl rfl rfl) (wi64 (y := ((2 * lv : Nat) : Int)) (by omega) (by omega))) rfl rfl ?_;refine RQ.ev (.as (v' := .int .i64 ((4 ^ lv : Nat) : Int)) (.shl rfl rfl (by omega)) (by exact shl_1 lv (by omega))) rfl rfl ?_;refine RQ.ev (.as (v' := .int .i64 ((4 ^ lv - 1 : Nat) : Int)) (.bin rfl rfl rfl) (by have h3 : 4 ^ lv ≤ 4 ^ 10 := Nat.pow_le_pow_right (by decide) (by omega); have h4 : 0 < 4 ^ lv := Nat.pow_pos (by decide); have h5 : (4 : Nat) ^ 10 = 1048576 := rfl; congr 1; rw [IntKind.wrap_i64]; omega)) rfl rfl ?_;refine RQ.ev (.as (v' := .int .i64 ((hashOf y.n % 4 ^ lv : Nat) : Int)) (.bin rfl rfl rfl) (by exact and_low _ lv (by omega))) rfl rfl ?_;refine RQ.ev (.move rfl) rfl rfl ?_;refine RQ.ev (.bin rfl rfl rfl) rfl rfl ?_;refine RQ.ev (.pick_f rfl rfl) rfl rfl ?_;refine RQ.nil (fun w13 s14 => RC.back ?_);have S := S.trans s14;have hb_11 := hb_11.sub s14;have hb_13 := hb_13.sub s14;refine RC.cond_dec rfl (fun h15 => ?_) (fun h15 => ?_)
      ·
       have hres : MayP s.1 k r d left (-1) := (mayP_leaf (k := k) (d := d) hr0 hy h3 hl0).2 (fun q => by have h2 := q.2; rw [← hlv] at h2; rw [h2] at h15; exact h15 rfl)
       refine RC.seq (RC.region rfl ?_);refine RL.asS rfl ?_;refine RL.nil (RC.back ?_);refine RC.d1 10 rfl rfl rfl ?_
       exact ⟨_, rfl, hres, S⟩
      ·
       have hres : MayP s.1 k r d left 1 := (mayP_leaf (k := k) (d := d) hr0 hy h3 hl0).1 ⟨hlf, by rw [← hlv]; omega⟩
       refine RC.skip (RC.back (RC.seq (RC.region rfl ?_)));refine RL.asS rfl ?_;refine RL.nil (RC.back ?_);refine RC.d1 10 rfl rfl rfl ?_
       exact ⟨_, rfl, hres, S⟩
    ·
     have h3 := h8
     refine RC.seq (RC.region rfl ?_);refine RL.eS (.bin rfl rfl rfl) ?_;refine RL.asS rfl ?_;refine RL.nil (RC.back ?_);refine RC.cond_dec rfl (fun h16 => ?_) (fun h16 => ?_)
     ·
      have h2 := h16
      refine RC.seq (RC.seq (RC.region rfl ?_));refine RL.mvS rfl ?_;refine RL.eS (.bin rfl rfl rfl) ?_;refine RL.mvS rfl ?_;refine RL.split 73 rfl (fun h17 => ?_) (fun h17 => ?_)
      ·
       have hres : MayP s.1 k r d left (-1) := mayP_odd hr0 hy h3 (.inr (.inl ⟨h2, by have := h17; omega⟩))
       refine RL.offs 3 rfl ?_;refine RL.eS (.pick_t rfl rfl) ?_;refine RL.nil (RC.back ?_);refine RC.cond_t rfl ?_;refine RC.seq (RC.region rfl ?_);refine RL.asS rfl ?_;refine RL.nil (RC.back ?_);refine RC.d1 10 rfl rfl rfl ?_
       exact ⟨_, rfl, hres, S⟩
      ·
       have hk0 : ¬ k = 0 := (by have := h17; omega)
       refine RL.eS (.loadR (y.cells) sh140 rfl hb_11.row rfl) ?_;refine RL.eS (.loadR ((bareH y).cells) sh140 rfl hb_13.row rfl) ?_;refine RL.eS (.neS (xs := y.cells) (ys := (bareH y).cells) fk140 eg140 sh140 rfl rfl rfl rfl rfl) ?_;refine RL.eS (.pick_f rfl rfl) ?_;refine RL.nil (RC.back ?_);refine RC.cond rfl (fun h18 => ?_) (fun h18 => ?_)
       ·
        have hres : MayP s.1 k r d left (-1) := mayP_odd hr0 hy h3 (.inl (ne_bare.1 h18))
        refine RC.seq (RC.region rfl ?_);refine RL.asS rfl ?_;refine RL.nil (RC.back ?_);refine RC.d1 10 rfl rfl rfl ?_
        exact ⟨_, rfl, hres, S⟩
       ·
        have hbr : bareH y = y := Decidable.not_not.1 (fun q => by have h2 := h18; rw [ne_bare.2 q] at h2; cases h2)
        refine RC.skip (RC.back (RC.seq (RC.region rfl ?_)));refine RL.mvS rfl ?_;refine RL.eS (.loadR (y.cells) sh140 rfl (hb_11.row) rfl) ?_;refine RL.mvS rfl ?_;refine RL.mvS rfl ?_;refine RL.mvS rfl ?_;refine RL.call rfl ok184 (hT y hy h2 hbr hk0 hl0 w7 S) rfl rfl ?_;rintro _ w19 ⟨n, rfl, hres, s20⟩;have S := S.trans s20;have hb_11 := hb_11.sub s20;have hb_13 := hb_13.sub s20;refine RL.asS rfl ?_;refine RL.nil (RC.back ?_);refine RC.d1 10 rfl rfl rfl ?_
        exact ⟨_, rfl, hres, S⟩
     ·
      have h2 := h16
      refine RC.seq (RC.region rfl ?_);refine RL.eS (.bin rfl rfl rfl) ?_;refine RL.asS rfl ?_;refine RL.nil (RC.back ?_);refine RC.cond_dec rfl (fun h21 => ?_) (fun h21 => ?_)
      ·
       have h4 := h21
       refine RC.seq (RC.seq (RC.region rfl ?_));refine RL.mvS rfl ?_;refine RL.eS (.bin rfl rfl rfl) ?_;refine RL.mvS rfl ?_;refine RL.split 88 rfl (fun h22 => ?_) (fun h22 => ?_)
       ·
        have hres : MayP s.1 k r d left (-1) := mayP_odd hr0 hy h3 (.inr (.inr (.inl ⟨h4, by have := h22; omega⟩)))
        refine RL.offs 3 rfl ?_;refine RL.eS (.pick_t rfl rfl) ?_;refine RL.nil (RC.back ?_);refine RC.cond_t rfl ?_;refine RC.seq (RC.region rfl ?_);refine RL.asS rfl ?_;refine RL.nil (RC.back ?_);refine RC.d1 10 rfl rfl rfl ?_
        exact ⟨_, rfl, hres, S⟩
       ·
        have hk0 : k = 0 := (by have := h22; omega)
        refine RL.eS (.loadR (y.cells) sh140 rfl hb_11.row rfl) ?_;refine RL.eS (.loadR ((bareH y).cells) sh140 rfl hb_13.row rfl) ?_;refine RL.eS (.neS (xs := y.cells) (ys := (bareH y).cells) fk140 eg140 sh140 rfl rfl rfl rfl rfl) ?_;refine RL.eS (.pick_f rfl rfl) ?_;refine RL.nil (RC.back ?_);refine RC.cond rfl (fun h23 => ?_) (fun h23 => ?_)
        ·
         have hres : MayP s.1 k r d left (-1) := mayP_odd hr0 hy h3 (.inl (ne_bare.1 h23))
         refine RC.seq (RC.region rfl ?_);refine RL.asS rfl ?_;refine RL.nil (RC.back ?_);refine RC.d1 10 rfl rfl rfl ?_
         exact ⟨_, rfl, hres, S⟩
        ·
         have hbr : bareH y = y := Decidable.not_not.1 (fun q => by have h2 := h23; rw [ne_bare.2 q] at h2; cases h2)
         refine RC.skip (RC.back (RC.seq (RC.region rfl ?_)));refine RL.mvS rfl ?_;refine RL.eS (.loadR (y.cells) sh140 rfl (hb_11.row) rfl) ?_;refine RL.mvS rfl ?_;refine RL.call rfl ok185 (hC y hy h4 hbr hk0 hl0 w7 S) rfl rfl ?_;rintro _ w24 ⟨n, rfl, hres2, s25⟩;have S := S.trans s25;refine RL.asS rfl ?_;refine RL.nil (RC.back (RC.seq (RC.region rfl ?_)));refine RL.mvS rfl ?_;refine RL.mvS rfl ?_;refine RL.eS (.bin rfl rfl rfl) ?_;refine RL.nil (RC.back ?_);refine RC.cond_dec rfl (fun h26 => ?_) (fun h26 => ?_)
         ·
          have hres : MayP s.1 k r d left n := hres2.1 h26
          refine RC.seq (RC.region rfl ?_);refine RL.mvS rfl ?_;refine RL.asS rfl ?_;refine RL.nil (RC.back ?_);refine RC.d1 10 rfl rfl rfl ?_
          exact ⟨_, rfl, hres, S⟩
         ·
          have hres : MayP s.1 k r d left (-1) := hres2.2 (by have := h26; omega)
          refine RC.skip (RC.back (RC.seq (RC.region rfl ?_)));refine RL.asS rfl ?_;refine RL.nil (RC.back ?_);refine RC.d1 10 rfl rfl rfl ?_
          exact ⟨_, rfl, hres, S⟩
      ·
       have h4 := h21
       have hres : MayP s.1 k r d left (-1) := mayP_odd hr0 hy h3 (.inr (.inr (.inr ⟨h2, h4⟩)))
       refine RC.skip (RC.back (RC.seq (RC.region rfl ?_)));refine RL.asS rfl ?_;refine RL.nil (RC.back ?_);refine RC.d1 10 rfl rfl rfl ?_
       exact ⟨_, rfl, hres, S⟩
theorem dig_bound {d q m : Nat} (hd : d < q) (hm : m < 4) : d + q * m < q * 4 := by
  have : q * m ≤ q * 3 := Nat.mul_le_mul_left q (by omega)
  omega
theorem kid_get {y : Node} {i : Nat} {x : Int} (h : y.kids[i]? = some x) : y.kids.getD i 0 = x := by rw [List.getD_eq_getElem?_getD, h]; rfl
set_option maxHeartbeats 1000000 in
theorem c_trie (bf : Nat) (s : St) (C : Nat → Prop) (k lv : Nat) (hk : k ≤ 9) (hlv : lv = 9 - k) (r : Int) (y : Node) (hy : getA s.1 r = some y) (hyo : y.ok) (hy2 : y.kind = 2) (hyb : bareH y = y) (d : Nat) (hd : d < 4 ^ lv) (left : Int) (h0 : 0 ≤ left) (hl : left ≤ 1000000)
  (ih : ∀ (r' : Int) (d' : Nat) (left' : Int) (w' : World), U64 r' → d' < 4 ^ (lv + 1) → 0 ≤ left' → left' ≤ 1000000 → Ft C (Ho bf s C) w' → FC Tryz.prog 110 [.pointer (some ⟨bf, 0, none⟩), .int .u64 r', .int .i64 ((lv + 1 : Nat) : Int), .int .i64 (d' : Int), .int .i64 left'] w' (MayR (MayP s.1 k r' d' left') w'))
  (w : World) (hF : Ft C (Ho bf s C) w) :
  FC Tryz.prog 184 [.pointer (some ⟨bf, 0, none⟩), y.val, .int .i64 (lv : Int), .int .i64 (d : Int), .int .i64 left] w (MayR (MayP s.1 (k + 1) r d left) w) := by
 have hG : Ft C (Ho bf s C) w := hF
 refine FC.intro Tryz.func184 rfl Tryz.ntmps184 rfl ?_
 have S := Sub.refl w
 refine RC.seq (RC.region rfl ?_);refine RL.box rfl rfl rfl (fun b_6 w_6 e_6 z_6 hb_6 s_6 => ?_);have S := S.trans s_6
 have hb_6 : Has w_6 b_6 (y.cells) _ := hb_6
 refine RL.asS rfl ?_;refine RL.nil (RC.back (RC.seq (RC.region rfl ?_)));refine RL.asS rfl ?_;refine RL.nil (RC.back (RC.seq (RC.seq (RC.region rfl ?_))));refine RL.eS (.field0 fo140_5 rfl) ?_;refine RL.eS (.as (v' := .agg (y.kids.map u6).toArray) (.loadR (y.kids.map u6) sh138 rfl (Has.row_at (pre := [i6 y.kind, i6 y.gen, i6 y.n, i6 y.v, i6 y.s]) (mid := y.kids.map u6) (post := [i6 y.pre, i6 y.suf]) hb_6 rfl) rfl) (by rfl)) ?_;refine RL.mvS rfl ?_;refine RL.nil (RC.back (RC.block ?_));refine RC.loop (α := Nat × Int) (fun x => [(0, .pointer (some ⟨bf, 0, none⟩)), (2, .int .i64 (lv : Int)), (3, .int .i64 (d : Int)), (4, .int .i64 left), (6, .pointer (some ⟨b_6, 0, none⟩)), (11, .int .i64 x.2), (16, .agg (y.kids.map u6).toArray), (17, .int .i64 (x.1 : Int))]) (fun x w1 => x.1 ≤ 9 ∧ TrieS s.1 k y d left x.1 x.2 ∧ Has w1 b_6 y.cells 140 ∧ Sub w w1) (fun x => 9 - x.1) (0, 0) (keep_of (by repeat (first | exact trivial | refine And.intro rfl ?_))) (⟨Nat.zero_le _, trie_start h0, hb_6, S⟩) (fun x w1 hJ => ?_)
 obtain ⟨i, sum⟩ := x; obtain ⟨hi, hS, hb_6, S⟩ := hJ; simp only [] at hi hS; have hsr : 0 ≤ sum ∧ sum ≤ left := (by obtain ⟨l, _, _, _, _, _, q6, q7⟩ := hS; exact ⟨by omega, q7⟩)
 refine RC.seq (RC.region rfl ?_);refine RL.eS (.bin rfl rfl rfl) ?_;refine RL.nil (RC.back (RC.seq ?_));refine RC.cond_dec rfl (fun h2 => ?_) (fun h2 => ?_)
 ·
  obtain ⟨x, hx⟩ := getSome (l := y.kids) (i := i) (by show i < 9; omega)
  have hkx := kid_get hx
  refine RC.skip (RC.back (RC.seq (RC.block (RC.seq (RC.region rfl ?_)))));refine RL.mvS rfl ?_;refine RL.eS (.index1 ar138 sh31 rfl rfl (by omega) ((by simp [hx] : (y.kids.map u6).toArray[(i : Int).toNat * 1]? = some (u6 x)))) ?_;refine RL.asS rfl ?_;refine RL.asS rfl ?_;refine RL.nil (RC.back (RC.seq (RC.seq (RC.region rfl ?_))));refine RL.mvS rfl ?_;refine RL.eS (.bin rfl rfl rfl) ?_;refine RL.mvS rfl ?_;refine RL.split 23 rfl (fun h3 => ?_) (fun h3 => ?_)
  ·
   have h23 := h3
   refine RL.mvS rfl ?_;refine RL.eS (.bin rfl rfl rfl) ?_;refine RL.eS (.pick_t rfl rfl) ?_;refine RL.nil (RC.back ?_);refine RC.cond_dec rfl (fun h4 => ?_) (fun h4 => ?_)
   ·
    have hres : MayP s.1 (k + 1) r d left (-1) := trie_no hk hy hy2 hS (by omega) (.inl ⟨by omega, by rw [hkx]; exact h4⟩)
    refine RC.seq (RC.region rfl ?_);refine RL.asS rfl ?_;refine RL.nil (RC.back ?_);refine RC.d1 10 rfl rfl rfl ?_
    exact ⟨_, rfl, hres, S⟩
   ·
    have h26 : x = 0 := Decidable.not_not.1 h4
    refine RC.skip (RC.back (RC.seq (RC.region rfl ?_)));refine RL.mvS rfl ?_;refine RL.mvS rfl ?_;refine RL.mvS rfl ?_;refine RL.eS (.as (.bin rfl rfl rfl) (wi64 (y := ((lv + 1 : Nat) : Int)) (by omega) (by omega))) ?_;refine RL.mvS rfl ?_;refine RL.mvS rfl ?_;refine RL.eS (.as (v' := .int .i64 ((i % 4 : Nat) : Int)) (.rem rfl rfl (by decide)) (by congr 1)) ?_;refine RL.mvS rfl ?_;refine RL.eS (.as (.bin rfl rfl rfl) (wi64 (y := ((2 * lv : Nat) : Int)) (by omega) (by omega))) ?_;refine RL.eS (.as (v' := .int .i64 ((4 ^ lv * (i % 4) : Nat) : Int)) (.shl rfl rfl (by omega)) (by exact shl_n _ lv (Nat.mod_lt _ (by decide)) (by omega))) ?_;refine RL.eS (.as (v' := .int .i64 ((d + 4 ^ lv * (i % 4) : Nat) : Int)) (.bin rfl rfl rfl) (by exact or_add d lv _ hd (Nat.mod_lt _ (by decide)) (by omega))) ?_;refine RL.mvS rfl ?_;refine RL.mvS rfl ?_;refine RL.eS (.as (.bin rfl rfl rfl) (wi64 (y := left - sum) (by rfl) (by omega))) ?_;refine RL.call rfl ok110 (ih x (d + 4 ^ lv * (i % 4)) (left - sum) w1 (hyo.kids x (List.mem_of_getElem? hx)) (by rw [Nat.pow_succ]; exact dig_bound hd (Nat.mod_lt _ (by decide))) (by omega) (by omega) (hG.sub S)) rfl rfl ?_;rintro _ w5 ⟨n, rfl, hP, s6⟩;have S := S.trans s6;have hb_6 := hb_6.sub s6
    have hPr := hP.rng (by omega)
    rw [hlv] at hP
    refine RL.asS rfl ?_;refine RL.nil (RC.back (RC.seq (RC.seq (RC.region rfl ?_))));refine RL.mvS rfl ?_;refine RL.eS (.bin rfl rfl rfl) ?_;refine RL.nil (RC.back ?_);refine RC.cond_dec rfl (fun h7 => ?_) (fun h7 => ?_)
    ·
     have hres : MayP s.1 (k + 1) r d left (-1) := trie_no hk hy hy2 hS (by omega) (.inr ⟨n, by rw [hkx]; exact hP, h7⟩)
     refine RC.seq (RC.region rfl ?_);refine RL.asS rfl ?_;refine RL.nil (RC.back ?_);refine RC.d1 10 rfl rfl rfl ?_
     exact ⟨_, rfl, hres, S⟩
    ·
     have hn0 : 0 ≤ n := (by omega)
     refine RC.skip (RC.back (RC.region rfl ?_));refine RL.mvS rfl ?_;refine RL.mvS rfl ?_;refine RL.eS (.as (.bin rfl rfl rfl) (wi64 (y := sum + n) (by rfl) (by omega))) ?_;refine RL.asS rfl ?_;refine RL.nil (RC.back (RC.region rfl ?_));refine RL.eS (.as (.bin rfl rfl rfl) (wi64 (y := ((i + 1 : Nat) : Int)) (by omega) (by omega))) ?_;refine RL.mvS rfl ?_
     exact RL.nil (fun a ka => ⟨(i + 1, sum + n), ⟨by omega, trie_step hk (hlv ▸ hd) hS (by omega) (fun h => by rw [hkx]; first | exact h26 | omega) (by rw [hkx]; exact hP) hn0, hb_6, S⟩, by omega, ka.keep (keep_of (by repeat (first | exact trivial | refine And.intro rfl ?_)))⟩)
  ·
   have h23 := h3
   refine RL.offs 2 rfl ?_;refine RL.eS (.pick_f rfl rfl) ?_;refine RL.nil (RC.back ?_);refine RC.cond_f rfl ?_;refine RC.skip (RC.back (RC.seq (RC.region rfl ?_)));refine RL.mvS rfl ?_;refine RL.mvS rfl ?_;refine RL.mvS rfl ?_;refine RL.eS (.as (.bin rfl rfl rfl) (wi64 (y := ((lv + 1 : Nat) : Int)) (by omega) (by omega))) ?_;refine RL.mvS rfl ?_;refine RL.mvS rfl ?_;refine RL.eS (.as (v' := .int .i64 ((i % 4 : Nat) : Int)) (.rem rfl rfl (by decide)) (by congr 1)) ?_;refine RL.mvS rfl ?_;refine RL.eS (.as (.bin rfl rfl rfl) (wi64 (y := ((2 * lv : Nat) : Int)) (by omega) (by omega))) ?_;refine RL.eS (.as (v' := .int .i64 ((4 ^ lv * (i % 4) : Nat) : Int)) (.shl rfl rfl (by omega)) (by exact shl_n _ lv (Nat.mod_lt _ (by decide)) (by omega))) ?_;refine RL.eS (.as (v' := .int .i64 ((d + 4 ^ lv * (i % 4) : Nat) : Int)) (.bin rfl rfl rfl) (by exact or_add d lv _ hd (Nat.mod_lt _ (by decide)) (by omega))) ?_;refine RL.mvS rfl ?_;refine RL.mvS rfl ?_;refine RL.eS (.as (.bin rfl rfl rfl) (wi64 (y := left - sum) (by rfl) (by omega))) ?_;refine RL.call rfl ok110 (ih x (d + 4 ^ lv * (i % 4)) (left - sum) w1 (hyo.kids x (List.mem_of_getElem? hx)) (by rw [Nat.pow_succ]; exact dig_bound hd (Nat.mod_lt _ (by decide))) (by omega) (by omega) (hG.sub S)) rfl rfl ?_;rintro _ w8 ⟨n, rfl, hP, s9⟩;have S := S.trans s9;have hb_6 := hb_6.sub s9
   have hPr := hP.rng (by omega)
   rw [hlv] at hP
   refine RL.asS rfl ?_;refine RL.nil (RC.back (RC.seq (RC.seq (RC.region rfl ?_))));refine RL.mvS rfl ?_;refine RL.eS (.bin rfl rfl rfl) ?_;refine RL.nil (RC.back ?_);refine RC.cond_dec rfl (fun h10 => ?_) (fun h10 => ?_)
   ·
    have hres : MayP s.1 (k + 1) r d left (-1) := trie_no hk hy hy2 hS (by omega) (.inr ⟨n, by rw [hkx]; exact hP, h10⟩)
    refine RC.seq (RC.region rfl ?_);refine RL.asS rfl ?_;refine RL.nil (RC.back ?_);refine RC.d1 10 rfl rfl rfl ?_
    exact ⟨_, rfl, hres, S⟩
   ·
    have hn0 : 0 ≤ n := (by omega)
    refine RC.skip (RC.back (RC.region rfl ?_));refine RL.mvS rfl ?_;refine RL.mvS rfl ?_;refine RL.eS (.as (.bin rfl rfl rfl) (wi64 (y := sum + n) (by rfl) (by omega))) ?_;refine RL.asS rfl ?_;refine RL.nil (RC.back (RC.region rfl ?_));refine RL.eS (.as (.bin rfl rfl rfl) (wi64 (y := ((i + 1 : Nat) : Int)) (by omega) (by omega))) ?_;refine RL.mvS rfl ?_
    exact RL.nil (fun a ka => ⟨(i + 1, sum + n), ⟨by omega, trie_step hk (hlv ▸ hd) hS (by omega) (fun h => absurd h (by omega)) (by rw [hkx]; exact hP) hn0, hb_6, S⟩, by omega, ka.keep (keep_of (by repeat (first | exact trivial | refine And.intro rfl ?_)))⟩)
 ·
  obtain rfl : i = 9 := (by omega)
  have hend := trie_end (r := r) hk hy hy2 hyb hS
  refine RC.exit rfl (RC.back (RC.seq (RC.seq (RC.region rfl ?_))));refine RL.mvS rfl ?_;refine RL.eS (.bin rfl rfl rfl) ?_;refine RL.mvS rfl ?_;refine RL.split 50 rfl (fun h11 => ?_) (fun h11 => ?_)
  ·
   have hres : MayP s.1 (k + 1) r d left (-1) := hend.2 (.inl h11)
   refine RL.offs 4 rfl ?_;refine RL.eS (.pick_t rfl rfl) ?_;refine RL.nil (RC.back ?_);refine RC.cond_t rfl ?_;refine RC.seq (RC.region rfl ?_);refine RL.asS rfl ?_;refine RL.nil (RC.back ?_);refine RC.d1 10 rfl rfl rfl ?_
   exact ⟨_, rfl, hres, S⟩
  ·
   have h50 := h11
   refine RL.mvS rfl ?_;refine RL.eS (.field0 fo140_4 rfl) ?_;refine RL.eS (.load1 sh2 rfl (hb_6.cell rfl)) ?_;refine RL.eS (.bin rfl rfl rfl) ?_;refine RL.eS (.pick_f rfl rfl) ?_;refine RL.nil (RC.back ?_);refine RC.cond_dec rfl (fun h12 => ?_) (fun h12 => ?_)
   ·
    have hres : MayP s.1 (k + 1) r d left (-1) := hend.2 (.inr h12)
    refine RC.seq (RC.region rfl ?_);refine RL.asS rfl ?_;refine RL.nil (RC.back ?_);refine RC.d1 10 rfl rfl rfl ?_
    exact ⟨_, rfl, hres, S⟩
   ·
    have hres : MayP s.1 (k + 1) r d left sum := hend.1 (fun e => e.elim h50 h12)
    refine RC.skip (RC.back (RC.seq (RC.region rfl ?_)));refine RL.mvS rfl ?_;refine RL.asS rfl ?_;refine RL.nil (RC.back ?_);refine RC.d1 10 rfl rfl rfl ?_
    exact ⟨_, rfl, hres, S⟩
theorem kid_cell {y : Node} {i : Nat} {x : Int} (h : y.kids[i]? = some x) : y.cells[5 + (i : Int).toNat * 1]? = some (u6 x) := by
  have hi : i < 9 := lt_of_get h
  rcases i with _|_|_|_|_|_|_|_|_|i
  all_goals first | (cases h; rfl) | omega
theorem mayP_uniq {A : Ar} {k d : Nat} {r left n m : Int} (h : MayP A k r d left n) (h2 : MayP A k r d left m) : n = m := by
  rcases h with ⟨l, h, rfl⟩ | ⟨rfl, h⟩ <;> rcases h2 with ⟨l', h2, rfl⟩ | ⟨rfl, h2⟩
  · have e1 := h.1.size; have e2 := h2.1.size; omega
  · exact absurd h (h2 l)
  · exact absurd h2 (h l')
  · rfl
def leafV (z : Node) (d : Nat) : Int := if leafH z = z ∧ hashOf z.n % 4 ^ 10 = d then 1 else -1
theorem leafV_ok {A : Ar} {r : Int} {z : Node} {d : Nat} (hz : getA A r = some z) (h3 : z.kind = 3) : MayP A 0 r d 1 (leafV z d) := by
  unfold leafV
  by_cases q : leafH z = z ∧ hashOf z.n % 4 ^ 10 = d
  · rw [if_pos q]; exact (mayP_leaf (k := 0) (d := d) (getA_nz hz) hz h3 (by decide)).1 q
  · rw [if_neg q]; exact (mayP_leaf (k := 0) (d := d) (getA_nz hz) hz h3 (by decide)).2 q
theorem c_mayLeaf (bf : Nat) (s : St) (C : Nat → Prop) (r : Int) (hr : U64 r) (z : Node) (hz : getA s.1 r = some z) (h3 : z.kind = 3) (d : Nat) (w : World) (hF : Ft C (Ho bf s C) w) :
    FC Tryz.prog 110 [.pointer (some ⟨bf, 0, none⟩), .int .u64 r, .int .i64 10, .int .i64 (d : Int), .int .i64 1] w (Val (.int .i64 (leafV z d)) w) := by
  refine (c_mayG bf s C 0 10 (by decide) rfl r hr d 1 (by decide) w hF (fun y2 e1 e2 => by rw [hz] at e1; cases e1; omega) (fun y2 e1 e2 => by rw [hz] at e1; cases e1; omega)).mono ?_
  rintro v w' ⟨n, rfl, hP, s'⟩
  exact ⟨by rw [mayP_uniq hP (leafV_ok hz h3)], s'⟩
set_option maxHeartbeats 2000000 in
theorem c_clashH (bf : Nat) (s : St) (C : Nat → Prop) (r : Int) (y : Node) (hy : getA s.1 r = some y) (hyo : y.ok) (hy4 : y.kind = 4) (hyb : bareH y = y) (d : Nat) (left : Int) (w : World) (hF : Ft C (Ho bf s C) w) :
  FC Tryz.prog 185 [.pointer (some ⟨bf, 0, none⟩), y.val, .int .i64 (d : Int)] w (MayR (fun n => (n ≤ left → MayP s.1 0 r d left n) ∧ (left < n → MayP s.1 0 r d left (-1))) w) := by
 have hG : Ft C (Ho bf s C) w := hF
 have hnok := hF.now.nok
 have res_no : (∀ left l, ¬ MayT s.1 0 r d left l) → (((-1 : Int) ≤ left → MayP s.1 0 r d left (-1)) ∧ (left < (-1 : Int) → MayP s.1 0 r d left (-1))) := fun h => ⟨fun _ => .inr ⟨rfl, h left⟩, fun _ => .inr ⟨rfl, h left⟩⟩
 refine FC.intro Tryz.func185 rfl Tryz.ntmps185 rfl ?_
 have S := Sub.refl w
 refine RC.seq (RC.region rfl ?_);refine RL.box rfl rfl rfl (fun b_4 w_4 e_4 z_4 hb_4 s_4 => ?_);have S := S.trans s_4
 have hb_4 : Has w_4 b_4 (y.cells) _ := hb_4
 refine RL.asS rfl ?_;refine RL.nil (RC.back (RC.seq (RC.region rfl ?_)));refine RL.asS rfl ?_;refine RL.nil (RC.back (RC.seq (RC.seq (RC.region rfl ?_))));refine RL.eS (.field0 fo140_5 rfl) ?_;refine RL.eS (.as (v' := .agg (y.kids.map u6).toArray) (.loadR (y.kids.map u6) sh138 rfl (Has.row_at (pre := [i6 y.kind, i6 y.gen, i6 y.n, i6 y.v, i6 y.s]) (mid := y.kids.map u6) (post := [i6 y.pre, i6 y.suf]) hb_4 rfl) rfl) (by rfl)) ?_;refine RL.mvS rfl ?_;refine RL.nil (RC.back (RC.block ?_));refine RC.loop (α := Nat × Int) (fun x => [(0, .pointer (some ⟨bf, 0, none⟩)), (2, .int .i64 (d : Int)), (4, .pointer (some ⟨b_4, 0, none⟩)), (7, .int .i64 x.2), (12, .agg (y.kids.map u6).toArray), (13, .int .i64 (x.1 : Int))]) (fun x w1 => x.1 ≤ 9 ∧ ClashS s.1 y d x.1 x.2 ∧ Has w1 b_4 y.cells 140 ∧ Sub w w1) (fun x => 9 - x.1) (0, 0) (keep_of (by repeat (first | exact trivial | refine And.intro rfl ?_))) (⟨Nat.zero_le _, clash_start, hb_4, S⟩) (fun x w1 hJ => ?_)
 obtain ⟨i, many⟩ := x; obtain ⟨hi, hS, hb_4, S⟩ := hJ; simp only [] at hi hS; have hsr : 0 ≤ many ∧ many ≤ i := (by obtain ⟨l, _, q2, q3, _⟩ := hS; omega)
 refine RC.seq (RC.region rfl ?_);refine RL.eS (.bin rfl rfl rfl) ?_;refine RL.nil (RC.back (RC.seq ?_));refine RC.cond_dec rfl (fun h2 => ?_) (fun h2 => ?_)
 ·
  obtain ⟨x, hx⟩ := getSome (l := y.kids) (i := i) (by show i < 9; omega)
  have hkx := kid_get hx
  have hxu := hyo.kids x (List.mem_of_getElem? hx)
  have hi9 : i < 9 := (by omega)
  refine RC.skip (RC.back (RC.seq (RC.block (RC.seq (RC.region rfl ?_)))));refine RL.mvS rfl ?_;refine RL.eS (.index1 ar138 sh31 rfl rfl (by omega) ((by simp [hx] : (y.kids.map u6).toArray[(i : Int).toNat * 1]? = some (u6 x)))) ?_;refine RL.asS rfl ?_;refine RL.asS rfl ?_;refine RL.nil (RC.back (RC.seq (RC.region rfl ?_)));refine RL.mvS rfl ?_;refine RL.mvS rfl ?_;refine RL.call rfl ok200 (c_hget bf s C x hxu w1 (hG.sub S)) rfl rfl ?_;rintro _ w3 ⟨rfl, s4⟩;have S := S.trans s4;have hb_4 := hb_4.sub s4;refine RL.alloc ze140 rfl rfl (fun b_10 w_10 e_10 z_10 hb_10 s_10 => ?_);have ge_10 := S.le e_10;have n_4__10 := hb_4.ne e_10;have S := S.trans s_10;have hb_4 := hb_4.sub s_10;refine RL.stS sh140 rfl rfl rfl hb_10 (fun w5 z5 hb_10 a5 => ?_);have S := S.upd a5 ge_10;have hb_4 := hb_4.upd a5 n_4__10
  have hb_10 : Has w5 b_10 ((getN s.1 x).cells) _ := hb_10.now (by kernel_rfl)
  refine RL.nil (RC.back (RC.seq (RC.seq (RC.region rfl ?_))));refine RL.mvS rfl ?_;refine RL.eS (.bin rfl rfl rfl) ?_;refine RL.nil (RC.back ?_);refine RC.cond_dec rfl (fun h6 => ?_) (fun h6 => ?_)
  ·
   have hx0 := h6
   refine RC.exit rfl (RC.back (RC.region rfl ?_));refine RL.eS (.as (.bin rfl rfl rfl) (wi64 (y := ((i + 1 : Nat) : Int)) (by omega) (by omega))) ?_;refine RL.mvS rfl ?_
   exact RL.nil (fun a ka => ⟨(i + 1, many), ⟨by omega, clash_skip hS (by rw [hkx]; exact hx0), hb_4, S⟩, by omega, ka.keep (keep_of (by repeat (first | exact trivial | refine And.intro rfl ?_)))⟩)
  ·
   have hx0 : ¬ x = 0 := h6
   refine RC.skip (RC.back (RC.seq (RC.seq ?_)));refine RC.draw rfl mxo (by kernel_rfl) ?_;refine RQ.ev (.move rfl) rfl rfl ?_;refine RQ.ev (.move rfl) rfl rfl ?_;refine RQ.ev (.bin rfl rfl rfl) rfl rfl ?_;refine RQ.ev (.move rfl) rfl rfl ?_;refine RQ.split 25 rfl (fun h7 => ?_) (fun h7 => ?_)
   ·
    have hres := res_no (clash_no hy hy4 hS hi9 (by rw [hkx]; exact hx0) (.inl h7))
    refine RQ.oS ?_;refine RQ.oS ?_;refine RQ.oS ?_;refine RQ.ev (.pick_t rfl rfl) rfl rfl ?_;refine RQ.ev (.move rfl) rfl rfl ?_;refine RQ.oS ?_;refine RQ.oS ?_;refine RQ.oS ?_;refine RQ.oS ?_;refine RQ.oS ?_;refine RQ.ev (.pick_t rfl rfl) rfl rfl ?_;refine RQ.ev (.move rfl) rfl rfl ?_;refine RQ.oS ?_;refine RQ.oS ?_;refine RQ.oS ?_;refine RQ.oS ?_;refine RQ.oS ?_;refine RQ.oS ?_;refine RQ.oS ?_;refine RQ.oS ?_;refine RQ.oS ?_;refine RQ.oS ?_;refine RQ.oS ?_;refine RQ.oS ?_;refine RQ.oS ?_;refine RQ.oS ?_;refine RQ.oS ?_;refine RQ.ev (.pick_t rfl rfl) rfl rfl ?_;refine RQ.nil (fun w8 s9 => RC.back ?_);have S := S.trans s9;have hb_4 := hb_4.sub s9;have hb_10 := hb_10.sub s9;refine RC.cond_t rfl ?_;refine RC.seq (RC.region rfl ?_);refine RL.asS rfl ?_;refine RL.nil (RC.back ?_);refine RC.d1 6 rfl rfl rfl ?_
    exact ⟨_, rfl, hres, S⟩
   ·
    have him : (i : Int) = many := Decidable.not_not.1 h7
    refine RQ.ev (.field0 fo140_0 rfl) rfl rfl ?_;refine RQ.ev (.load1 sh3 rfl (hb_10.cell rfl)) rfl rfl ?_;refine RQ.ev (.bin rfl rfl rfl) rfl rfl ?_;refine RQ.ev (.pick_f rfl rfl) rfl rfl ?_;refine RQ.ev (.move rfl) rfl rfl ?_;refine RQ.split 30 rfl (fun h10 => ?_) (fun h10 => ?_)
    ·
     have hres := res_no (clash_no hy hy4 hS hi9 (by rw [hkx]; exact hx0) (.inr (.inl (by rw [hkx]; exact h10))))
     refine RQ.oS ?_;refine RQ.oS ?_;refine RQ.oS ?_;refine RQ.oS ?_;refine RQ.oS ?_;refine RQ.ev (.pick_t rfl rfl) rfl rfl ?_;refine RQ.ev (.move rfl) rfl rfl ?_;refine RQ.oS ?_;refine RQ.oS ?_;refine RQ.oS ?_;refine RQ.oS ?_;refine RQ.oS ?_;refine RQ.oS ?_;refine RQ.oS ?_;refine RQ.oS ?_;refine RQ.oS ?_;refine RQ.oS ?_;refine RQ.oS ?_;refine RQ.oS ?_;refine RQ.oS ?_;refine RQ.oS ?_;refine RQ.oS ?_;refine RQ.ev (.pick_t rfl rfl) rfl rfl ?_;refine RQ.nil (fun w11 s12 => RC.back ?_);have S := S.trans s12;have hb_4 := hb_4.sub s12;have hb_10 := hb_10.sub s12;refine RC.cond_t rfl ?_;refine RC.seq (RC.region rfl ?_);refine RL.asS rfl ?_;refine RL.nil (RC.back ?_);refine RC.d1 6 rfl rfl rfl ?_
     exact ⟨_, rfl, hres, S⟩
    ·
     have hx3 : (getN s.1 x).kind = 3 := Decidable.not_not.1 h10
     obtain ⟨z, hz⟩ : ∃ z, getA s.1 x = some z := (by cases hg : getA s.1 x with | none => rw [getN, hg] at hx3; exact absurd hx3 (show ¬ (0 : Int) = 3 by decide) | some z => exact ⟨z, rfl⟩)
     have hgz := getN_yes hz
     rw [hgz] at hx3
     refine RQ.ev (.move rfl) rfl rfl ?_;refine RQ.ev (.move rfl) rfl rfl ?_;refine RQ.ev (.move rfl) rfl rfl ?_;refine RQ.call rfl ok110 (fun w' s' => c_mayLeaf bf s C x hxu z hz hx3 d w' (hG.sub (S.trans s'))) rfl rfl ?_;refine RQ.ev (.bin rfl rfl rfl) rfl rfl ?_;refine RQ.ev (.pick_f rfl rfl) rfl rfl ?_;refine RQ.ev (.move rfl) rfl rfl ?_;refine RQ.split 37 rfl (fun h13 => ?_) (fun h13 => ?_)
     ·
      have hres := res_no (clash_no hy hy4 hS hi9 (by rw [hkx]; exact hx0) (.inr (.inr (.inl ⟨leafV z d, by rw [hkx]; exact leafV_ok hz hx3, h13⟩))))
      refine RQ.oS ?_;refine RQ.oS ?_;refine RQ.oS ?_;refine RQ.oS ?_;refine RQ.oS ?_;refine RQ.oS ?_;refine RQ.oS ?_;refine RQ.oS ?_;refine RQ.oS ?_;refine RQ.oS ?_;refine RQ.oS ?_;refine RQ.oS ?_;refine RQ.oS ?_;refine RQ.oS ?_;refine RQ.oS ?_;refine RQ.ev (.pick_t rfl rfl) rfl rfl ?_;refine RQ.nil (fun w14 s15 => RC.back ?_);have S := S.trans s15;have hb_4 := hb_4.sub s15;have hb_10 := hb_10.sub s15;refine RC.cond_t rfl ?_;refine RC.seq (RC.region rfl ?_);refine RL.asS rfl ?_;refine RL.nil (RC.back ?_);refine RC.d1 6 rfl rfl rfl ?_
      exact ⟨_, rfl, hres, S⟩
     ·
      have hn1 : leafV z d = 1 := Decidable.not_not.1 h13
      have hP1 := leafV_ok (d := d) hz hx3
      rw [hn1] at hP1
      refine RQ.ev (.move rfl) rfl rfl ?_;refine RQ.ev (.bin rfl rfl rfl) rfl rfl ?_;refine RQ.ev (.move rfl) rfl rfl ?_;refine RQ.split 40 rfl (fun h16 => ?_) (fun h16 => ?_)
      ·
       have h40 : 0 < i := (by have := h16; omega)
       obtain ⟨x1, hx1⟩ := getSome (l := y.kids) (i := i - 1) (by show i - 1 < 9; omega)
       have hkx1 := kid_get hx1
       refine RQ.ev (.move rfl) rfl rfl ?_;refine RQ.ev (.move rfl) rfl rfl ?_;refine RQ.ev (.as (.bin rfl rfl rfl) (wi64 (y := ((i - 1 : Nat) : Int)) (by omega) (by omega))) rfl rfl ?_;refine RQ.ev (.field0 fo140_5 rfl) rfl rfl ?_;refine RQ.ev (.indexArr ar138 rfl rfl (by omega)) rfl rfl ?_;refine RQ.ev (.load1 sh31 rfl (hb_4.cell (kid_cell hx1))) rfl rfl ?_;refine RQ.call rfl ok200 (fun w' s' => c_hget bf s C x1 (hyo.kids x1 (List.mem_of_getElem? hx1)) w' (hG.sub (S.trans s'))) rfl rfl ?_;refine RQ.ev (.fieldV Tryz.underlying140 rfl sh2 rfl rfl) rfl rfl ?_;refine RQ.ev (.field0 fo140_2 rfl) rfl rfl ?_;refine RQ.ev (.load1 sh2 rfl (hb_10.cell rfl)) rfl rfl ?_;refine RQ.ev (.bin rfl rfl rfl) rfl rfl ?_;refine RQ.ev (.pick_t rfl rfl) rfl rfl ?_;refine RQ.ev (.pick_f rfl rfl) rfl rfl ?_;refine RQ.nil (fun w17 s18 => RC.back ?_);have S := S.trans s18;have hb_4 := hb_4.sub s18;refine RC.cond_dec rfl (fun h19 => ?_) (fun h19 => ?_)
       ·
        have hres := res_no (clash_no hy hy4 hS hi9 (by rw [hkx]; exact hx0) (.inr (.inr (.inr ⟨h40, by rw [hkx, hkx1]; exact h19⟩))))
        refine RC.seq (RC.region rfl ?_);refine RL.asS rfl ?_;refine RL.nil (RC.back ?_);refine RC.d1 6 rfl rfl rfl ?_
        exact ⟨_, rfl, hres, S⟩
       ·
        have hlt := h19
        refine RC.skip (RC.back (RC.region rfl ?_));refine RL.mvS rfl ?_;refine RL.eS (.as (.bin rfl rfl rfl) (wi64 (y := many + 1) (by rfl) (by omega))) ?_;refine RL.asS rfl ?_;refine RL.nil (RC.back (RC.region rfl ?_));refine RL.eS (.as (.bin rfl rfl rfl) (wi64 (y := ((i + 1 : Nat) : Int)) (by omega) (by omega))) ?_;refine RL.mvS rfl ?_
        exact RL.nil (fun a ka => ⟨(i + 1, many + 1), ⟨by omega, clash_step hS him (by rw [hkx]; exact hz) hx3 (by rw [hkx]; exact hP1) (fun h => by first | exact absurd h h40 | (rw [hkx1]; rw [hgz] at hlt; omega)), hb_4, S⟩, by omega, ka.keep (keep_of (by repeat (first | exact trivial | refine And.intro rfl ?_)))⟩)
      ·
       have h40 : ¬ 0 < i := (by have := h16; omega)
       refine RQ.oS ?_;refine RQ.oS ?_;refine RQ.oS ?_;refine RQ.oS ?_;refine RQ.oS ?_;refine RQ.oS ?_;refine RQ.oS ?_;refine RQ.oS ?_;refine RQ.oS ?_;refine RQ.oS ?_;refine RQ.oS ?_;refine RQ.ev (.pick_f rfl rfl) rfl rfl ?_;refine RQ.ev (.pick_f rfl rfl) rfl rfl ?_;refine RQ.nil (fun w20 s21 => RC.back ?_);have S := S.trans s21;have hb_4 := hb_4.sub s21;refine RC.cond_f rfl ?_;refine RC.skip (RC.back (RC.region rfl ?_));refine RL.mvS rfl ?_;refine RL.eS (.as (.bin rfl rfl rfl) (wi64 (y := many + 1) (by rfl) (by omega))) ?_;refine RL.asS rfl ?_;refine RL.nil (RC.back (RC.region rfl ?_));refine RL.eS (.as (.bin rfl rfl rfl) (wi64 (y := ((i + 1 : Nat) : Int)) (by omega) (by omega))) ?_;refine RL.mvS rfl ?_
       exact RL.nil (fun a ka => ⟨(i + 1, many + 1), ⟨by omega, clash_step hS him (by rw [hkx]; exact hz) hx3 (by rw [hkx]; exact hP1) (fun h => by first | exact absurd h h40 | (rw [hkx1]; rw [hgz] at hlt; omega)), hb_4, S⟩, by omega, ka.keep (keep_of (by repeat (first | exact trivial | refine And.intro rfl ?_)))⟩)
 ·
  obtain rfl : i = 9 := (by omega)
  have hend := clash_end (r := r) (left := left) hy hy4 hyb hS
  refine RC.exit rfl (RC.back (RC.seq (RC.seq (RC.region rfl ?_))));refine RL.mvS rfl ?_;refine RL.eS (.bin rfl rfl rfl) ?_;refine RL.mvS rfl ?_;refine RL.split 59 rfl (fun h22 => ?_) (fun h22 => ?_)
  ·
   have hres := res_no fun left l => (clash_end (left := left) hy hy4 hyb hS).2 (.inl (.inl h22)) l
   refine RL.offs 4 rfl ?_;refine RL.eS (.pick_t rfl rfl) ?_;refine RL.nil (RC.back ?_);refine RC.cond_t rfl ?_;refine RC.seq (RC.region rfl ?_);refine RL.asS rfl ?_;refine RL.nil (RC.back ?_);refine RC.d1 6 rfl rfl rfl ?_
   exact ⟨_, rfl, hres, S⟩
  ·
   have h59 := h22
   refine RL.mvS rfl ?_;refine RL.eS (.field0 fo140_4 rfl) ?_;refine RL.eS (.load1 sh2 rfl (hb_4.cell rfl)) ?_;refine RL.eS (.bin rfl rfl rfl) ?_;refine RL.eS (.pick_f rfl rfl) ?_;refine RL.nil (RC.back ?_);refine RC.cond_dec rfl (fun h23 => ?_) (fun h23 => ?_)
   ·
    have hres := res_no fun left l => (clash_end (left := left) hy hy4 hyb hS).2 (.inl (.inr h23)) l
    refine RC.seq (RC.region rfl ?_);refine RL.asS rfl ?_;refine RL.nil (RC.back ?_);refine RC.d1 6 rfl rfl rfl ?_
    exact ⟨_, rfl, hres, S⟩
   ·
    have h64 := h23
    have hres : (many ≤ left → MayP s.1 0 r d left many) ∧ (left < many → MayP s.1 0 r d left (-1)) := ⟨fun h => hend.1 (fun e => e.elim h59 h64) h, fun h => .inr ⟨rfl, hend.2 (.inr h)⟩⟩
    refine RC.skip (RC.back (RC.seq (RC.region rfl ?_)));refine RL.mvS rfl ?_;refine RL.asS rfl ?_;refine RL.nil (RC.back ?_);refine RC.d1 6 rfl rfl rfl ?_
    exact ⟨_, rfl, hres, S⟩
theorem c_hmay (bf : Nat) (s : St) (C : Nat → Prop) : ∀ (k lv : Nat) (r : Int) (d : Nat) (left : Int) (w : World), k ≤ 10 → lv = 10 - k → U64 r → d < 4 ^ lv → 0 ≤ left → left ≤ 1000000 → Ft C (Ho bf s C) w →
    FC Tryz.prog 110 [.pointer (some ⟨bf, 0, none⟩), .int .u64 r, .int .i64 (lv : Int), .int .i64 (d : Int), .int .i64 left] w (MayR (MayP s.1 k r d left) w)
  | 0, lv, r, d, left, w, hk, hlv, hr, hd, h0, hl, hF =>
    c_mayG bf s C 0 lv hk hlv r hr d left h0 w hF (fun y _ _ _ h => absurd rfl h) (fun y hy h4 hb _ _ w' s' => c_clashH bf s C r y hy (hF.now.nok y (getA_nok hy)) h4 hb d left w' (hF.sub s'))
  | k + 1, lv, r, d, left, w, hk, hlv, hr, hd, h0, hl, hF =>
    c_mayG bf s C (k + 1) lv hk hlv r hr d left h0 w hF (fun y hy h2 hb _ _ w' s' => c_trie bf s C k lv (by omega) (by omega) r y hy (hF.now.nok y (getA_nok hy)) h2 hb d hd left h0 hl
      (fun r' d' left' w2 h1 h2 h3 h4 h5 => c_hmay bf s C k (lv + 1) r' d' left' w2 (by omega) (by omega) h1 h2 h3 h4 h5) w' (hF.sub s')) (fun y _ _ _ h => absurd h (by omega))
theorem c_hRight (A : Ar) (na fa : Option Addr) (nc fc : Nat) (hnc : A.nodes.length ≤ nc) (hfc : A.free.length ≤ fc) (r : Int) (hr : U64 r) (w : World) (hA : ArR w na fa A) :
  FC Tryz.prog 51 [arV na fa nc fc A, .int .u64 r] w (Val (.bool (isTabB A r)) w) := by
 have hN := hA.nodes
 have hFr := hA.free
 have hG : Ft (· < w.heap.size) (fun u => ArR u na fa A) w := Ft.of_sub fun u s => hA.sub s
 refine FC.intro Tryz.func51 rfl Tryz.ntmps51 rfl ?_
 have S := Sub.refl w
 refine RC.seq (RC.region rfl ?_);refine RL.box rfl rfl rfl (fun b_2 w_2 e_2 z_2 hb_2 s_2 => ?_);have S := S.trans s_2
 have hb_2 : Has w_2 b_2 ([.slice na A.nodes.length nc, .slice fa A.free.length fc]) _ := hb_2
 refine RL.asS rfl ?_;refine RL.nil (RC.back (RC.seq (RC.region rfl ?_)));refine RL.eS (.loadR ([.slice na A.nodes.length nc, .slice fa A.free.length fc]) sh26 rfl hb_2.row rfl) ?_;refine RL.eS (.buildS ze195 pl195 rfl rfl) ?_;refine RL.box rfl rfl rfl (fun b_8 w_8 e_8 z_8 hb_8 s_8 => ?_);have ge_8 := S.le e_8;have S := S.trans s_8;have hb_2 := hb_2.sub s_8
 have hb_8 : Has w_8 b_8 (wvC na fa nc fc A 0) 195 := hb_8
 have hG1 := hG.sub S
 have hF := FoG.ft (s := (A, 0)) hb_8 hnc hfc hG1 (fun e => by have := ge_8; omega)
 refine RL.asS rfl ?_;refine RL.nil (RC.back (RC.seq (RC.region rfl ?_)));refine RL.eS (.loadR ([.slice na A.nodes.length nc, .slice fa A.free.length fc]) sh26 rfl hb_2.row rfl) ?_;refine RL.call rfl ok109 (c_aRight A na fa nc fc w_8 (hA.sub S)) rfl rfl ?_;rintro _ w1 ⟨rfl, s2⟩;have S := S.trans s2;have hF := hF.sub s2;refine RL.mvS rfl ?_;refine RL.splitB 11 rfl (fun h3 => ?_) (fun h3 => ?_)
 ·
  have hok : AOk A := (aokB_iff A).1 h3
  refine RL.mvS rfl ?_;refine RL.mvS rfl ?_;refine RL.call rfl ok110 (c_hmay b_8 (A, 0) _ 10 0 r 0 200 w1 (by decide) rfl hr (by decide) (by decide) (by decide) hF) rfl rfl ?_;rintro _ w4 ⟨n, rfl, hP, s5⟩;have S := S.trans s5
  have hP := isTab_iff hok hP
  refine RL.eS (.bin rfl rfl rfl) ?_;refine RL.eS (.pick_t rfl rfl) ?_;refine RL.asS rfl ?_;refine RL.nil (RC.back ?_);refine RC.d1 4 rfl rfl rfl ?_
  exact ⟨congrArg Value.bool ((Bool.eq_iff_iff.2 (by rw [isTabB_iff, decide_eq_true_iff]; exact hP))), S⟩
 ·
  have hno : isTabB A r = false := isTabB_no (fun h => by have h2 := h3; rw [(aokB_iff A).2 h.1] at h2; cases h2)
  refine RL.offs 4 rfl ?_;refine RL.eS (.pick_f rfl rfl) ?_;refine RL.asS rfl ?_;refine RL.nil (RC.back ?_);refine RC.d1 4 rfl rfl rfl ?_
  rw [hno]
  exact ⟨rfl, S⟩
theorem node_cases {A : Ar} {k : Nat} {r : Int} {L : List It} (h : IsH A k r L) : (L = [] ∧ getN A r = bareN 0) ∨ (∃ x g, L = [x] ∧ getN A r = hN 3 g x.k x.v 0 []) ∨ (2 ≤ L.length ∧ ∃ k' y, k = k' + 1 ∧ getN A r = y ∧ getA A r = some y ∧ y.kind = 2 ∧ y.s = L.length ∧ ∀ i, i < 4 → IsH A k' (y.kids.getD i 0) (ofL (9 - k') i L)) ∨
    (2 ≤ L.length ∧ k = 0 ∧ ∃ y m, getN A r = y ∧ getA A r = some y ∧ y.kind = 4 ∧ y.s = L.length ∧ List.Perm m L ∧ Srt m ∧ m.length ≤ 9 ∧ (∀ i x, m[i]? = some x → lfA A (y.kids.getD i 0) x) ∧ ∀ i, m.length ≤ i → i < 9 → y.kids.getD i 0 = 0) := by
  rcases row_cases L with rfl | ⟨x, rfl⟩ | h2
  · exact .inl ⟨rfl, by rw [isH_nil.1 h]; unfold getN; rw [getA_z]; rfl⟩
  · obtain ⟨g, e⟩ := (isH_one.1 h).getN
    exact .inr (.inl ⟨x, g, rfl, e⟩)
  · cases k with
    | zero =>
      obtain ⟨y, m, q1, q2, q3, q4, q5, q6, q7, q8, q9⟩ := clash_node ((isH_clash h2).1 h) h2
      exact .inr (.inr (.inr ⟨h2, rfl, y, m, getN_yes q1, q1, q2, q3, q4, q5, q7, q8, q9⟩))
    | succ k =>
      obtain ⟨y, q1, q2, q3, q4⟩ := trie_node h h2
      exact .inr (.inr (.inl ⟨h2, k, y, rfl, getN_yes q1, q1, q2, q3, q4⟩))
def FindH (L : List It) (key : Int) (y : Node) : Prop := (∃ x ∈ L, x.k = key ∧ ∃ g, y = hN 3 g x.k x.v 0 []) ∨ ((∀ x ∈ L, ¬ x.k = key) ∧ y = bareN 0)
theorem dig_kids (key : Int) (lv : Nat) (y : Node) : ∃ z, y.kids[dig key lv]? = some z := getSome (by have := dig_lt key lv; show _ < 9; omega)
set_option maxHeartbeats 2000000 in
theorem c_hfind (bf : Nat) (s : St) (C : Nat → Prop) (r key : Int) (hr : U64 r) (L : List It) (hL : IsH s.1 10 r L) (w : World) (hF : Ft C (Ho bf s C) w) :
    FC Tryz.prog 133 [.pointer (some ⟨bf, 0, none⟩), .int .u64 r, .int .i64 key] w (fun v w' => Sub w w' ∧ ∃ y, v = y.val ∧ y.ok ∧ FindH L key y) := by
  have hG : Ft C (Ho bf s C) w := hF
  have hnok := hF.now.nok
  have gok : ∀ r', (getN s.1 r').ok := fun r' => by
    unfold getN
    cases h : getA s.1 r' with
    | none => exact bareN_ok z64
    | some x => exact hnok x (getA_nok h)
  refine FC.intro Tryz.func133 rfl Tryz.ntmps133 rfl ?_
  have S := Sub.refl w
  refine RC.seq (RC.region rfl ?_);refine RL.alloc ze140 rfl rfl (fun b_6 w_6 e_6 z_6 hb_6 s_6 => ?_);have ge_6 := S.le e_6;have S := S.trans s_6;refine RL.nil (RC.back (RC.seq (RC.region rfl ?_)));refine RL.asS rfl ?_;refine RL.nil (RC.back (RC.block ?_));refine RC.loop (α := Nat × Int × List It) (fun x => [(0, .pointer (some ⟨bf, 0, none⟩)), (1, .int .u64 x.2.1), (2, .int .i64 key), (6, .pointer (some ⟨b_6, 0, none⟩)), (7, .int .i64 ((10 - x.1 : Nat) : Int))]) (fun x w1 => (x.1 ≤ 10 ∧ IsH s.1 x.1 x.2.1 x.2.2 ∧ (∀ z ∈ x.2.2, z ∈ L) ∧ (∀ z ∈ L, z.k = key → z ∈ x.2.2) ∧ U64 x.2.1) ∧ Has w1 b_6 (bareN 0).cells 140 ∧ Sub w w1) (fun x => x.1) (10, r, L) (keep_of (by repeat (first | exact trivial | refine And.intro rfl ?_))) (⟨⟨Nat.le_refl _, hL, fun z h => h, fun z h _ => h, hr⟩, hb_6, S⟩) (fun x w1 hJ => ?_)
  obtain ⟨k, r', M⟩ := x; obtain ⟨⟨hk, hM, hMi, hMo, hr'⟩, hb_6, S⟩ := hJ; simp only [] at hk hM hMi hMo hr'; have hc := node_cases hM; have hyo := gok r'; obtain ⟨y, hy⟩ : ∃ y, getN s.1 r' = y := ⟨_, rfl⟩; rw [hy] at hc hyo
  refine RC.seq (RC.block (RC.seq (RC.region rfl ?_)));refine RL.mvS rfl ?_;refine RL.mvS rfl ?_;refine RL.call rfl ok200 ((hy ▸ c_hget bf s C r' hr' w1 (hG.sub S))) rfl rfl ?_;rintro _ w2 ⟨rfl, s3⟩;have S := S.trans s3;have hb_6 := hb_6.sub s3;refine RL.alloc ze140 rfl rfl (fun b_8 w_8 e_8 z_8 hb_8 s_8 => ?_);have ge_8 := S.le e_8;have n_6__8 := hb_6.ne e_8;have S := S.trans s_8;have hb_6 := hb_6.sub s_8;refine RL.stS sh140 rfl rfl rfl hb_8 (fun w4 z4 hb_8 a4 => ?_);have S := S.upd a4 ge_8;have hb_6 := hb_6.upd a4 n_6__8
  have hb_8 : Has w4 b_8 (y.cells) _ := hb_8.now (by kernel_rfl)
  refine RL.nil (RC.back (RC.seq (RC.block (RC.seq (RC.region rfl ?_)))));refine RL.eS (.field0 fo140_0 rfl) ?_;refine RL.eS (.load1 sh3 rfl (hb_8.cell rfl)) ?_;refine RL.eS (.bin rfl rfl rfl) ?_;refine RL.asS rfl ?_;refine RL.nil (RC.back ?_);refine RC.cond_dec rfl (fun h5 => ?_) (fun h5 => ?_)
  ·
    have q2 : y.kind = 2 := h5
    have hc2 : 2 ≤ M.length ∧ ∃ k', k = k' + 1 ∧ ∀ i, i < 4 → IsH s.1 k' (y.kids.getD i 0) (ofL (9 - k') i M) := (by rcases hc with ⟨_, rfl⟩ | ⟨x, g, _, rfl⟩ | ⟨h2, k', y', e1, e2, _, _, _, e3⟩ | ⟨_, _, y', m, e2, _, e4, _⟩; exact absurd q2 (show ¬ (0 : Int) = 2 by decide); exact absurd q2 (show ¬ (3 : Int) = 2 by decide); (rw [e2]; exact ⟨h2, k', e1, e3⟩); (rw [e2] at q2; omega))
    obtain ⟨h2l, k', hkk, hki⟩ := hc2
    have hlv9 : 9 - k' = 10 - k := (by omega)
    rw [hlv9] at hki
    obtain ⟨z, hz⟩ := dig_kids key (10 - k) y
    have hzd : y.kids.getD (dig key (10 - k)) 0 = z := kid_get hz
    refine RC.seq (RC.region rfl ?_);refine RL.mvS rfl ?_;refine RL.mvS rfl ?_;refine RL.call rfl ok201 (c_digit key (10 - k) (by omega) w4) rfl rfl ?_;rintro _ w6 ⟨rfl, s7⟩;have S := S.trans s7;have hb_6 := hb_6.sub s7;have hb_8 := hb_8.sub s7;refine RL.eS (.field0 fo140_5 rfl) ?_;refine RL.eS (.indexArr ar138 rfl rfl (by have := dig_lt key (10 - k); omega)) ?_;refine RL.eS (.load1 sh31 rfl (hb_8.cell (kid_cell hz))) ?_;refine RL.asS rfl ?_;refine RL.nil (RC.back ?_);refine RC.exit rfl (RC.back (RC.region rfl ?_));refine RL.mvS rfl ?_;refine RL.eS (.as (.bin rfl rfl rfl) (wi64 (y := ((10 - k' : Nat) : Int)) (by omega) (by omega))) ?_;refine RL.asS rfl ?_
    exact RL.nil (fun a ka => ⟨(k', z, ofL (10 - k) (dig key (10 - k)) M), ⟨⟨by simp only []; omega, by simp only []; rw [← hzd]; exact hki _ (dig_lt _ _), fun t ht => hMi t (ofL_mem.1 ht).1, fun t ht e => ofL_mem.2 ⟨hMo t ht e, by rw [e]⟩, hyo.kids z (List.mem_of_getElem? hz)⟩, hb_6, S⟩, by simp only []; omega, ka.keep (keep_of (by repeat (first | exact trivial | refine And.intro rfl ?_)))⟩)
  ·
    have q2 : ¬ y.kind = 2 := h5
    refine RC.seq (RC.region rfl ?_);refine RL.eS (.field0 fo140_0 rfl) ?_;refine RL.eS (.load1 sh3 rfl (hb_8.cell rfl)) ?_;refine RL.eS (.bin rfl rfl rfl) ?_;refine RL.asS rfl ?_;refine RL.nil (RC.back ?_);refine RC.cond_dec rfl (fun h8 => ?_) (fun h8 => ?_)
    ·
      have q4 : y.kind = 4 := h8
      have hc4 : ∃ m, List.Perm m M ∧ m.length ≤ 9 ∧ (∀ i x, m[i]? = some x → lfA s.1 (y.kids.getD i 0) x) ∧ ∀ i, m.length ≤ i → i < 9 → y.kids.getD i 0 = 0 := (by rcases hc with ⟨_, rfl⟩ | ⟨x, g, _, rfl⟩ | ⟨h2, k', y', e1, e2, _, e4, _⟩ | ⟨_, _, y', m, e2, _, _, _, e5, _, e6, e7, e8⟩; exact absurd q4 (show ¬ (0 : Int) = 4 by decide); exact absurd q4 (show ¬ (3 : Int) = 4 by decide); (rw [e2] at q4; omega); (rw [e2]; exact ⟨m, e5, e6, e7, e8⟩))
      obtain ⟨m, hmp, hm9, hml, hmz⟩ := hc4
      refine RC.seq (RC.seq (RC.region rfl ?_));refine RL.eS (.field0 fo140_5 rfl) ?_;refine RL.eS (.as (v' := .agg (y.kids.map u6).toArray) (.loadR (y.kids.map u6) sh138 rfl (Has.row_at (pre := [i6 y.kind, i6 y.gen, i6 y.n, i6 y.v, i6 y.s]) (mid := y.kids.map u6) (post := [i6 y.pre, i6 y.suf]) hb_8 rfl) rfl) (by rfl)) ?_;refine RL.mvS rfl ?_;refine RL.nil (RC.back (RC.block ?_));refine RC.loop (α := Nat) (fun i => [(0, .pointer (some ⟨bf, 0, none⟩)), (2, .int .i64 key), (6, .pointer (some ⟨b_6, 0, none⟩)), (32, .agg (y.kids.map u6).toArray), (33, .int .i64 (i : Int))]) (fun i w9 => i ≤ 9 ∧ (∀ j x, j < i → m[j]? = some x → ¬ x.k = key) ∧ Has w9 b_6 (bareN 0).cells 140 ∧ Sub w w9) (fun i => 9 - i) 0 (keep_of (by repeat (first | exact trivial | refine And.intro rfl ?_))) (⟨Nat.zero_le _, fun j x h => absurd h (by omega), hb_6, S⟩) (fun i w9 hJ => ?_)
      obtain ⟨hi, hno, hb_6, S⟩ := hJ
      refine RC.seq (RC.region rfl ?_);refine RL.eS (.bin rfl rfl rfl) ?_;refine RL.nil (RC.back (RC.seq ?_));refine RC.cond_dec rfl (fun h10 => ?_) (fun h10 => ?_)
      ·
        obtain ⟨z, hz⟩ := getSome (l := y.kids) (i := i) (by show i < 9; omega)
        have hzd := kid_get hz
        obtain ⟨t, ht⟩ : ∃ t, getN s.1 z = t := ⟨_, rfl⟩
        have hto := gok z
        rw [ht] at hto
        have hleaf : ∀ x, m[i]? = some x → ∃ g, t = hN 3 g x.k x.v 0 [] := (fun x hx => by obtain ⟨g, e⟩ := (hml i x hx).getN; rw [hzd, ht] at e; exact ⟨g, e⟩)
        have hout : m.length ≤ i → t = bareN 0 := (fun h => by have q := hmz i h (by omega); rw [hzd] at q; rw [← ht, q]; unfold getN; rw [getA_z]; rfl)
        refine RC.skip (RC.back (RC.seq (RC.block (RC.seq (RC.region rfl ?_)))));refine RL.eS (.index1 ar138 sh31 rfl rfl (by omega) ((by simp [hz] : (y.kids.map u6).toArray[(i : Int).toNat * 1]? = some (u6 z)))) ?_;refine RL.asS rfl ?_;refine RL.nil (RC.back (RC.seq (RC.region rfl ?_)));refine RL.mvS rfl ?_;refine RL.mvS rfl ?_;refine RL.call rfl ok200 ((ht ▸ c_hget bf s C z (hyo.kids z (List.mem_of_getElem? hz)) w9 (hG.sub S))) rfl rfl ?_;rintro _ w11 ⟨rfl, s12⟩;have S := S.trans s12;have hb_6 := hb_6.sub s12;refine RL.alloc ze140 rfl rfl (fun b_11 w_11 e_11 z_11 hb_11 s_11 => ?_);have ge_11 := S.le e_11;have n_6__11 := hb_6.ne e_11;have S := S.trans s_11;have hb_6 := hb_6.sub s_11;refine RL.stS sh140 rfl rfl rfl hb_11 (fun w13 z13 hb_11 a13 => ?_);have S := S.upd a13 ge_11;have hb_6 := hb_6.upd a13 n_6__11
        have hb_11 : Has w13 b_11 (t.cells) _ := hb_11.now (by kernel_rfl)
        refine RL.nil (RC.back (RC.seq (RC.region rfl ?_)));refine RL.eS (.field0 fo140_0 rfl) ?_;refine RL.eS (.load1 sh3 rfl (hb_11.cell rfl)) ?_;refine RL.eS (.bin rfl rfl rfl) ?_;refine RL.mvS rfl ?_;refine RL.split 42 rfl (fun h14 => ?_) (fun h14 => ?_)
        ·
          have q3 : t.kind = 3 := h14
          refine RL.eS (.field0 fo140_2 rfl) ?_;refine RL.eS (.load1 sh2 rfl (hb_11.cell rfl)) ?_;refine RL.mvS rfl ?_;refine RL.eS (.bin rfl rfl rfl) ?_;refine RL.eS (.pick_t rfl rfl) ?_;refine RL.nil (RC.back ?_);refine RC.cond_dec rfl (fun h15 => ?_) (fun h15 => ?_)
          ·
            have q5 : t.n = key := h15
            refine RC.seq (RC.region rfl ?_);refine RL.eS (.loadR (t.cells) sh140 rfl (hb_11.row) rfl) ?_;refine RL.stS sh140 rfl rfl rfl hb_6 (fun w16 z16 hb_6 a16 => ?_);have S := S.upd a16 ge_6
            have hb_6 : Has w16 b_6 (t.cells) _ := hb_6.now (by kernel_rfl)
            refine RL.nil (RC.back ?_);refine RC.done (rs := [.cell 6 140]) (vs := [_]) rfl rfl ⟨⟨_, rfl, .inr ⟨t.cells, sh140, hb_6.row, rfl⟩⟩, trivial⟩ ?_
            exact ⟨S, t, rfl, hto, .inl (by by_cases hi2 : i < m.length; (obtain ⟨x, hx⟩ := getSome (l := m) hi2; obtain ⟨g, rfl⟩ := hleaf x hx; exact ⟨x, hMi x (hmp.mem_iff.1 (List.mem_of_getElem? hx)), q5, g, rfl⟩); (rw [hout (by omega)] at q3; exact absurd q3 (show ¬ (0 : Int) = 3 by decide)))⟩
          ·
            have q5 : ¬ t.n = key := h15
            have hnk : ∀ x, m[i]? = some x → ¬ x.k = key := (fun x hx => by obtain ⟨g, rfl⟩ := hleaf x hx; exact q5)
            refine RC.skip (RC.back (RC.region rfl ?_));refine RL.eS (.as (.bin rfl rfl rfl) (wi64 (y := ((i + 1 : Nat) : Int)) (by omega) (by omega))) ?_;refine RL.mvS rfl ?_
            exact RL.nil (fun a ka => ⟨i + 1, ⟨by omega, fun j x hj hx => by by_cases e : j = i; (subst e; exact hnk x hx); exact hno j x (by omega) hx, hb_6, S⟩, by omega, ka.keep (keep_of (by repeat (first | exact trivial | refine And.intro rfl ?_)))⟩)
        ·
          have q3 : ¬ t.kind = 3 := h14
          have hnk : ∀ x, m[i]? = some x → ¬ x.k = key := (fun x hx => by obtain ⟨g, rfl⟩ := hleaf x hx; exact absurd rfl q3)
          refine RL.offs 4 rfl ?_;refine RL.eS (.pick_f rfl rfl) ?_;refine RL.nil (RC.back ?_);refine RC.cond_f rfl ?_;refine RC.skip (RC.back (RC.region rfl ?_));refine RL.eS (.as (.bin rfl rfl rfl) (wi64 (y := ((i + 1 : Nat) : Int)) (by omega) (by omega))) ?_;refine RL.mvS rfl ?_
          exact RL.nil (fun a ka => ⟨i + 1, ⟨by omega, fun j x hj hx => by by_cases e : j = i; (subst e; exact hnk x hx); exact hno j x (by omega) hx, hb_6, S⟩, by omega, ka.keep (keep_of (by repeat (first | exact trivial | refine And.intro rfl ?_)))⟩)
      ·
        obtain rfl : i = 9 := (by omega)
        refine RC.exit rfl (RC.back (RC.seq (RC.region rfl ?_)));refine RL.eS (.buildS ze140 pl140 rfl rfl) ?_;refine RL.stS sh140 rfl rfl rfl hb_6 (fun w17 z17 hb_6 a17 => ?_);have S := S.upd a17 ge_6
        have hb_6 : Has w17 b_6 ((bareN 0).cells) _ := hb_6.now (by kernel_rfl)
        refine RL.nil (RC.back ?_);refine RC.done (rs := [.cell 6 140]) (vs := [_]) rfl rfl ⟨⟨_, rfl, .inr ⟨(bareN 0).cells, sh140, hb_6.row, rfl⟩⟩, trivial⟩ ?_
        exact ⟨S, bareN 0, rfl, bareN_ok z64, .inr ⟨fun x hx e => by obtain ⟨j, hj⟩ := List.getElem?_of_mem (hmp.mem_iff.2 (hMo x hx e)); exact hno j x (by have := lt_of_get hj; omega) hj e, rfl⟩⟩
    ·
      have q4 : ¬ y.kind = 4 := h8
      have hc3 : (M = [] ∧ y = bareN 0) ∨ ∃ x g, M = [x] ∧ y = hN 3 g x.k x.v 0 [] := (by rcases hc with h | h | ⟨h2, k', y', e1, e2, _, e4, _⟩ | ⟨_, _, y', m, e2, _, e4, _⟩; exact .inl h; exact .inr h; (rw [e2] at q2; exact absurd e4 q2); (rw [e2] at q4; exact absurd e4 q4))
      refine RC.seq (RC.region rfl ?_);refine RL.eS (.field0 fo140_0 rfl) ?_;refine RL.eS (.load1 sh3 rfl (hb_8.cell rfl)) ?_;refine RL.eS (.bin rfl rfl rfl) ?_;refine RL.mvS rfl ?_;refine RL.split 55 rfl (fun h18 => ?_) (fun h18 => ?_)
      ·
        have q3 : y.kind = 3 := h18
        refine RL.eS (.field0 fo140_2 rfl) ?_;refine RL.eS (.load1 sh2 rfl (hb_8.cell rfl)) ?_;refine RL.mvS rfl ?_;refine RL.eS (.bin rfl rfl rfl) ?_;refine RL.eS (.pick_t rfl rfl) ?_;refine RL.asS rfl ?_;refine RL.nil (RC.back ?_);refine RC.cond_dec rfl (fun h19 => ?_) (fun h19 => ?_)
        ·
          have q5 : y.n = key := h19
          refine RC.seq (RC.region rfl ?_);refine RL.eS (.loadR (y.cells) sh140 rfl (hb_8.row) rfl) ?_;refine RL.stS sh140 rfl rfl rfl hb_6 (fun w20 z20 hb_6 a20 => ?_);have S := S.upd a20 ge_6
          have hb_6 : Has w20 b_6 (y.cells) _ := hb_6.now (by kernel_rfl)
          refine RL.nil (RC.back ?_);refine RC.done (rs := [.cell 6 140]) (vs := [_]) rfl rfl ⟨⟨_, rfl, .inr ⟨y.cells, sh140, hb_6.row, rfl⟩⟩, trivial⟩ ?_
          exact ⟨S, y, rfl, hyo, .inl (by rcases hc3 with ⟨_, rfl⟩ | ⟨x, g, hMx, rfl⟩; exact absurd q3 (show ¬ (0 : Int) = 3 by decide); exact ⟨x, hMi x (by rw [hMx]; simp), q5, g, rfl⟩)⟩
        ·
          have q5 : ¬ y.n = key := h19
          refine RC.skip (RC.back (RC.seq (RC.region rfl ?_)));refine RL.eS (.buildS ze140 pl140 rfl rfl) ?_;refine RL.stS sh140 rfl rfl rfl hb_6 (fun w21 z21 hb_6 a21 => ?_);have S := S.upd a21 ge_6
          have hb_6 : Has w21 b_6 ((bareN 0).cells) _ := hb_6.now (by kernel_rfl)
          refine RL.nil (RC.back ?_);refine RC.done (rs := [.cell 6 140]) (vs := [_]) rfl rfl ⟨⟨_, rfl, .inr ⟨(bareN 0).cells, sh140, hb_6.row, rfl⟩⟩, trivial⟩ ?_
          exact ⟨S, bareN 0, rfl, bareN_ok z64, .inr ⟨fun x hx e => by rcases hc3 with ⟨rfl, _⟩ | ⟨x', g, hMx, rfl⟩; (cases hMo x hx e); (have h3 := hMo x hx e; rw [hMx, List.mem_singleton] at h3; subst h3; exact q5 e), rfl⟩⟩
      ·
        have q3 : ¬ y.kind = 3 := h18
        have hM0 : M = [] := (by rcases hc3 with h | ⟨x, g, _, rfl⟩; exact h.1; exact absurd rfl q3)
        refine RL.offs 4 rfl ?_;refine RL.eS (.pick_f rfl rfl) ?_;refine RL.asS rfl ?_;refine RL.nil (RC.back ?_);refine RC.cond_f rfl ?_;refine RC.skip (RC.back (RC.seq (RC.region rfl ?_)));refine RL.eS (.buildS ze140 pl140 rfl rfl) ?_;refine RL.stS sh140 rfl rfl rfl hb_6 (fun w22 z22 hb_6 a22 => ?_);have S := S.upd a22 ge_6
        have hb_6 : Has w22 b_6 ((bareN 0).cells) _ := hb_6.now (by kernel_rfl)
        refine RL.nil (RC.back ?_);refine RC.done (rs := [.cell 6 140]) (vs := [_]) rfl rfl ⟨⟨_, rfl, .inr ⟨(bareN 0).cells, sh140, hb_6.row, rfl⟩⟩, trivial⟩ ?_
        exact ⟨S, bareN 0, rfl, bareN_ok z64, .inr ⟨fun x hx e => (by have h3 := hMo x hx e; rw [hM0] at h3; cases h3), rfl⟩⟩
def shL (key : Int) (L : List It) : Nat := (L.filter fun x => decide (hashOf x.k = hashOf key)).length
theorem shL_of (key : Int) (lv : Nat) (L : List It) : shL key (ofL lv (dig key lv) L) = shL key L := by
  unfold shL ofL
  rw [List.filter_filter]
  congr 1
  refine List.filter_congr fun x _ => ?_
  by_cases h : hashOf x.k = hashOf key
  · have : dig x.k lv = dig key lv := by unfold dig; rw [h]
    simp [h, this]
  · simp [h]
theorem shL_le (key : Int) (L : List It) : shL key L ≤ L.length := List.length_filter_le _ _
theorem shL_all {key : Int} {L : List It} (hf : Fam 10 (hashOf key % 4 ^ 10) L) : shL key L = L.length := by
  unfold shL
  rw [filter_all fun y hy => ?_]
  have h2 := hf y hy
  have h3 := hashOf_lt y.k
  have h4 := hashOf_lt key
  have h5 : (4 : Nat) ^ 10 = 1048576 := rfl
  rw [h5, Nat.mod_eq_of_lt h3, Nat.mod_eq_of_lt h4] at h2
  simpa using h2
theorem crowd_end {s : St} {k : Nat} {r : Int} {M : List It} {key : Int} (h : IsH s.1 k r M) (hk : k = 0 ∨ M.length ≤ 1) (hf : Fam (10 - k) (hashOf key % 4 ^ (10 - k)) M) : (¬ (getN s.1 r).kind = 4 → ¬ shL key M = 9) ∧ ((getN s.1 r).kind = 4 → ((getN s.1 r).s = 9 ↔ shL key M = 9)) := by
  have hle := shL_le key M
  rcases node_cases h with ⟨h1, h2⟩ | ⟨x, g, h1, h2⟩ | ⟨h1, k', y, h2, _⟩ | ⟨h1, h2, y, m, h3, _, h4, h5, _⟩
  · rw [h2]; subst h1
    exact ⟨fun _ e => by simp at hle; omega, fun e => absurd e (show ¬ (0 : Int) = 4 by decide)⟩
  · rw [h2]; subst h1
    exact ⟨fun _ e => by simp at hle; omega, fun e => absurd e (show ¬ (3 : Int) = 4 by decide)⟩
  · omega
  · rw [h3]
    subst h2
    refine ⟨fun e => absurd h4 e, fun _ => ?_⟩
    rw [h5, shL_all hf]; omega
set_option maxHeartbeats 2000000 in
theorem c_hcrowd (bf : Nat) (s : St) (C : Nat → Prop) (r key : Int) (hr : U64 r) (L : List It) (hL : IsH s.1 10 r L) (w : World) (hF : Ft C (Ho bf s C) w) :
    FC Tryz.prog 137 [.pointer (some ⟨bf, 0, none⟩), .int .u64 r, .int .i64 key] w (Val (.bool (decide (shL key L = 9))) w) := by
  have hG : Ft C (Ho bf s C) w := hF
  have hnok := hF.now.nok
  have gok : ∀ r', (getN s.1 r').ok := fun r' => by
    unfold getN
    cases h : getA s.1 r' with
    | none => exact bareN_ok z64
    | some x => exact hnok x (getA_nok h)
  refine FC.intro Tryz.func137 rfl Tryz.ntmps137 rfl ?_
  have S := Sub.refl w
  refine RC.seq (RC.region rfl ?_);refine RL.asS rfl ?_;refine RL.nil (RC.back (RC.seq (RC.seq (RC.region rfl ?_))));refine RL.mvS rfl ?_;refine RL.nil (RC.back (RC.block ?_));refine RC.loop (α := Nat × Nat × Int × List It) (fun x => [(0, .pointer (some ⟨bf, 0, none⟩)), (1, .int .u64 x.2.2.1), (2, .int .i64 key), (10, .int .i64 (x.1 : Int))]) (fun x w1 => (x.1 ≤ 10 ∧ x.2.1 ≤ 10 ∧ IsH s.1 x.2.1 x.2.2.1 x.2.2.2 ∧ (x.1 + x.2.1 = 10 ∨ x.2.2.2.length ≤ 1) ∧ Fam (10 - x.2.1) (hashOf key % 4 ^ (10 - x.2.1)) x.2.2.2 ∧ shL key x.2.2.2 = shL key L ∧ U64 x.2.2.1) ∧ Sub w w1) (fun x => 10 - x.1) (0, 10, r, L) (keep_of (by repeat (first | exact trivial | refine And.intro rfl ?_))) (⟨⟨Nat.zero_le _, Nat.le_refl _, hL, .inl rfl, fun z _ => by simp only []; rw [Nat.sub_self, Nat.pow_zero, Nat.mod_one, Nat.mod_one], rfl, hr⟩, S⟩) (fun x w1 hJ => ?_)
  obtain ⟨i, k, r', M⟩ := x; obtain ⟨⟨hi, hk, hM, hik, hfam, hsh, hr'⟩, S⟩ := hJ; simp only [] at hi hk hM hik hfam hsh hr'; have hc := node_cases hM; have hyo := gok r'; obtain ⟨y, hy⟩ : ∃ y, getN s.1 r' = y := ⟨_, rfl⟩; rw [hy] at hc hyo
  refine RC.seq (RC.region rfl ?_);refine RL.eS (.bin rfl rfl rfl) ?_;refine RL.nil (RC.back (RC.seq ?_));refine RC.cond_dec rfl (fun h2 => ?_) (fun h2 => ?_)
  ·
    have h11 := h2
    simp only [] at h11
    refine RC.skip (RC.back (RC.seq (RC.block (RC.seq (RC.region rfl ?_)))));refine RL.mvS rfl ?_;refine RL.asS rfl ?_;refine RL.nil (RC.back (RC.seq (RC.region rfl ?_)));refine RL.mvS rfl ?_;refine RL.mvS rfl ?_;refine RL.call rfl ok200 ((hy ▸ c_hget bf s C r' hr' w1 (hG.sub S))) rfl rfl ?_;rintro _ w3 ⟨rfl, s4⟩;have S := S.trans s4;refine RL.alloc ze140 rfl rfl (fun b_8 w_8 e_8 z_8 hb_8 s_8 => ?_);have ge_8 := S.le e_8;have S := S.trans s_8;refine RL.stS sh140 rfl rfl rfl hb_8 (fun w5 z5 hb_8 a5 => ?_);have S := S.upd a5 ge_8
    have hb_8 : Has w5 b_8 (y.cells) _ := hb_8.now (by kernel_rfl)
    refine RL.nil (RC.back (RC.seq (RC.region rfl ?_)));refine RL.eS (.field0 fo140_0 rfl) ?_;refine RL.eS (.load1 sh3 rfl (hb_8.cell rfl)) ?_;refine RL.eS (.bin rfl rfl rfl) ?_;refine RL.nil (RC.back ?_);refine RC.cond_dec rfl (fun h6 => ?_) (fun h6 => ?_)
    ·
      have q2 : y.kind = 2 := h6
      have hc2 : 2 ≤ M.length ∧ ∃ k', k = k' + 1 ∧ ∀ i, i < 4 → IsH s.1 k' (y.kids.getD i 0) (ofL (9 - k') i M) := (by rcases hc with ⟨_, rfl⟩ | ⟨x, g, _, rfl⟩ | ⟨h2, k', y', e1, e2, _, _, _, e3⟩ | ⟨_, _, y', m, e2, _, e4, _⟩; exact absurd q2 (show ¬ (0 : Int) = 2 by decide); exact absurd q2 (show ¬ (3 : Int) = 2 by decide); (rw [e2]; exact ⟨h2, k', e1, e3⟩); (rw [e2] at q2; omega))
      obtain ⟨h2l, k', hkk, hki⟩ := hc2
      have hik2 : i + k = 10 := (by omega)
      have hlv9 : 9 - k' = i := (by omega)
      have hlv10 : 10 - k = i := (by omega)
      have hlv11 : 10 - k' = i + 1 := (by omega)
      rw [hlv9] at hki
      rw [hlv10] at hfam
      obtain ⟨z, hz⟩ := dig_kids key i y
      have hzd : y.kids.getD (dig key i) 0 = z := kid_get hz
      refine RC.region rfl ?_;refine RL.mvS rfl ?_;refine RL.mvS rfl ?_;refine RL.call rfl ok201 (c_digit key i (by omega) w5) rfl rfl ?_;rintro _ w7 ⟨rfl, s8⟩;have S := S.trans s8;have hb_8 := hb_8.sub s8;refine RL.eS (.field0 fo140_5 rfl) ?_;refine RL.eS (.indexArr ar138 rfl rfl (by have := dig_lt key i; omega)) ?_;refine RL.eS (.load1 sh31 rfl (hb_8.cell (kid_cell hz))) ?_;refine RL.asS rfl ?_;refine RL.nil (RC.back (RC.region rfl ?_));refine RL.eS (.as (.bin rfl rfl rfl) (wi64 (y := ((i + 1 : Nat) : Int)) (by simp only []; omega) (by omega))) ?_;refine RL.mvS rfl ?_
      exact RL.nil (fun a ka => ⟨(i + 1, k', z, ofL i (dig key i) M), ⟨⟨by simp only []; omega, by simp only []; omega, by simp only []; rw [← hzd]; exact hki _ (dig_lt _ _), .inl (by simp only []; omega), by simp only []; rw [hlv11]; exact hfam.key, by simp only []; rw [shL_of]; exact hsh, hyo.kids z (List.mem_of_getElem? hz)⟩, S⟩, by simp only []; omega, ka.keep (keep_of (by repeat (first | exact trivial | refine And.intro rfl ?_)))⟩)
    ·
      have q2 : ¬ y.kind = 2 := h6
      have hM1 : M.length ≤ 1 ∨ k = 0 := (by rcases hc with ⟨h, _⟩ | ⟨x, g, h, _⟩ | ⟨_, k', y', e1, e2, _, e4, _⟩ | ⟨_, e1, _⟩; (rw [h]; exact .inl (by simp)); (rw [h]; exact .inl (by simp)); (rw [e2] at q2; exact absurd e4 q2); exact .inr e1)
      refine RC.skip (RC.back (RC.region rfl ?_));refine RL.eS (.as (.bin rfl rfl rfl) (wi64 (y := ((i + 1 : Nat) : Int)) (by simp only []; omega) (by omega))) ?_;refine RL.mvS rfl ?_
      exact RL.nil (fun a ka => ⟨(i + 1, k, r', M), ⟨⟨by simp only []; omega, hk, hM, .inr (by simp only []; omega), hfam, hsh, hr'⟩, S⟩, by simp only []; omega, ka.keep (keep_of (by repeat (first | exact trivial | refine And.intro rfl ?_)))⟩)
  ·
    have h11 := h2
    simp only [] at h11
    have hend := crowd_end (s := s) hM (by omega) hfam
    rw [hsh, hy] at hend
    refine RC.exit rfl (RC.back (RC.seq (RC.region rfl ?_)));refine RL.mvS rfl ?_;refine RL.mvS rfl ?_;refine RL.call rfl ok200 ((hy ▸ c_hget bf s C r' hr' w1 (hG.sub S))) rfl rfl ?_;rintro _ w9 ⟨rfl, s10⟩;have S := S.trans s10;refine RL.alloc ze140 rfl rfl (fun b_9 w_9 e_9 z_9 hb_9 s_9 => ?_);have ge_9 := S.le e_9;have S := S.trans s_9;refine RL.stS sh140 rfl rfl rfl hb_9 (fun w11 z11 hb_9 a11 => ?_);have S := S.upd a11 ge_9
    have hb_9 : Has w11 b_9 (y.cells) _ := hb_9.now (by kernel_rfl)
    refine RL.nil (RC.back (RC.seq (RC.region rfl ?_)));refine RL.eS (.field0 fo140_0 rfl) ?_;refine RL.eS (.load1 sh3 rfl (hb_9.cell rfl)) ?_;refine RL.eS (.bin rfl rfl rfl) ?_;refine RL.mvS rfl ?_;refine RL.split 32 rfl (fun h12 => ?_) (fun h12 => ?_)
    ·
      have q4 : y.kind = 4 := h12
      refine RL.eS (.field0 fo140_4 rfl) ?_;refine RL.eS (.load1 sh2 rfl (hb_9.cell rfl)) ?_;refine RL.eS (.bin rfl rfl rfl) ?_;refine RL.eS (.pick_t rfl rfl) ?_;refine RL.asS rfl ?_;refine RL.nil (RC.back ?_);refine RC.d1 6 rfl rfl rfl ?_
      exact ⟨congrArg Value.bool (decide_eq_decide.2 (hend.2 q4)), S⟩
    ·
      have q4 : ¬ y.kind = 4 := h12
      have hres : decide (shL key L = 9) = false := decide_eq_false (hend.1 q4)
      refine RL.offs 3 rfl ?_;refine RL.eS (.pick_f rfl rfl) ?_;refine RL.asS rfl ?_;refine RL.nil (RC.back ?_);refine RC.d1 6 rfl rfl rfl ?_
      rw [hres]
      exact ⟨rfl, S⟩
end Go.Proofs.YtbjmllnddanniaaGreat
set_option linter.unusedVariables false
set_option linter.unusedSimpArgs false
set_option maxRecDepth 4000
namespace Go.Proofs.YtbjmllnddanniaaGreat
open Go Go.XL
theorem HoQ.refl {s : St} (h : AOk s.1) : HoQ 0 s s := ⟨Gs.refl h, fun _ => rfl⟩
theorem del_kids {k i : Nat} {A0 : Ar} {s s1 : St} {L : List It} {key r1 : Int} {n : Nat} {ks0 ks : List Int} (hi : dig key (9 - k) = i) (hl0 : ks0.length = 4) (hk : ∀ j, j < 4 → IsH A0 k (ks0.getD j 0) (ofL (9 - k) j L)) (hE : Ext A0 s.1) (g1 : HoQ n s s1) (h1 : s1.2 = 0 → IsH s1.1 k r1 (delL (ofL (9 - k) i L) key)) (hks : ks = ks0.set i r1) : s1.2 = 0 → ∀ j, j < 4 → IsH s1.1 k (ks.getD j 0) (ofL (9 - k) j (delL L key)) := by
  intro h0 j hj
  by_cases e : j = i
  · rw [e, hks, List.getD_eq_getElem?_getD, List.getElem?_set_self (by omega), ofL_del]; exact h1 h0
  · rw [hks, List.getD_eq_getElem?_getD, List.getElem?_set_ne (by omega), ← List.getD_eq_getElem?_getD, ofL_del_ne (by omega)]
    exact (hk j hj).ext (hE.trans g1.1.ext)
theorem del_node {k i : Nat} {s s1 s2 : St} {L : List It} {key r : Int} {ks : List Int} (hap : Ap L) (hl3 : L.length ≤ 1000) (hi : dig key (9 - k) = i) (hl : ks.length = 4) (g1 : HoQ (cnt k (delL (ofL (9 - k) i L) key)) s s1) (hk : s1.2 = 0 → ∀ j, j < 4 → IsH s1.1 k (ks.getD j 0) (ofL (9 - k) j (delL L key))) (h2 : s1.2 = 0 → 2 ≤ (delL L key).length) (hm : MkX s1 (hN 2 0 0 0 (sumH s1.1 ks ks.length) ks) s2 r) : HoQ (cnt (k + 1) (delL L key)) s s2 ∧ (s2.2 = 0 → IsH s2.1 (k + 1) r (delL L key)) := by
  have hi4 : i < 4 := hi ▸ dig_lt _ _
  have hlen := delL_len (key := key) hap
  have key1 := mk_trie (L := delL L key) (k := k) g1.1.ok hl hk h2 (by omega) hm
  by_cases hs : s1.2 = 0
  · have hc := cnt_of (k := k) (h2 hs) hi4
    rw [ofL_del] at hc
    exact ⟨(g1.trans (hm.hq key1.1)).mono (by omega), key1.2⟩
  · have e2 := hm.bad hs
    rw [e2]
    refine ⟨g1.mono ?_, fun h => absurd h hs⟩
    have h5 : cnt k (delL (ofL (9 - k) i L) key) ≤ cnt (k + 1) (delL L key) := by
      by_cases q : 2 ≤ (delL L key).length
      · have hc := cnt_of (k := k) q hi4
        rw [ofL_del] at hc; omega
      · have e3 : (delL (ofL (9 - k) i L) key).length ≤ (delL L key).length := by rw [← ofL_del]; exact ofL_len _ _ _
        rw [cnt_few (l := delL L key) (by omega), cnt_few (by omega)]; exact e3
    exact h5
theorem del_one {k i j : Nat} {s s1 : St} {L : List It} {key r : Int} {ks : List Int} (hap : Ap L) (h2 : L.length = 2) (hkey : hasK L key = true) (hi : dig key (9 - k) = i) (g1 : HoQ (cnt k (delL (ofL (9 - k) i L) key)) s s1) (hk : s1.2 = 0 → ∀ j, j < 4 → IsH s1.1 k (ks.getD j 0) (ofL (9 - k) j (delL L key))) (hj : j < 4) (hr : ks.getD j 0 = r) (hr0 : ¬ r = 0) : HoQ (cnt (k + 1) (delL L key)) s s1 ∧ (s1.2 = 0 → IsH s1.1 (k + 1) r (delL L key)) := by
  have hlen := delL_len (key := key) hap
  rw [hkey, if_pos rfl, h2] at hlen
  have e1 : (delL L key).length = 1 := by omega
  refine ⟨g1.mono ?_, fun h0 => ?_⟩
  · have e3 : (delL (ofL (9 - k) i L) key).length ≤ (delL L key).length := by rw [← ofL_del]; exact ofL_len _ _ _
    rw [cnt_few (l := delL L key) (by omega), cnt_few (by omega)]; exact e3
  · have h3 := hk h0 j hj
    rw [hr] at h3
    obtain ⟨z, hz⟩ := List.length_eq_one_iff.1 e1
    rw [hz] at h3 ⊢
    rcases row_cases (ofL (9 - k) j [z]) with e | ⟨x, e⟩ | e
    · rw [e] at h3; exact absurd (isH_nil.1 h3) hr0
    · rw [e] at h3
      have : x ∈ ofL (9 - k) j [z] := by rw [e]; simp
      rw [List.mem_singleton.1 (ofL_mem.1 this).1] at h3
      exact isH_one.2 (isH_one.1 h3)
    · have := ofL_len (9 - k) j [z]
      simp at this; omega
theorem del_some {k : Nat} {A : Ar} {L : List It} {key : Int} {ks : List Int} (hap : Ap L) (h2 : L.length = 2) (hkey : hasK L key = true) (hk : ∀ j, j < 4 → IsH A k (ks.getD j 0) (ofL (9 - k) j (delL L key))) : ¬ ∀ j, j < 4 → ks.getD j 0 = 0 := by
  intro h
  have hlen := delL_len (key := key) hap
  rw [hkey, if_pos rfl, h2] at hlen
  obtain ⟨z, hz⟩ := List.length_eq_one_iff.1 (show (delL L key).length = 1 by omega)
  have h3 := hk (dig z.k (9 - k)) (dig_lt _ _)
  rw [h _ (dig_lt _ _)] at h3
  have h4 := h3.zero.1 rfl
  have : z ∈ ofL (9 - k) (dig z.k (9 - k)) (delL L key) := ofL_mem.2 ⟨by rw [hz]; simp, rfl⟩
  rw [h4] at this
  cases this
def DelR (bf : Nat) (k : Nat) (L : List It) (key : Int) (s : St) (C : Nat → Prop) (w : World) : Value → World → Prop := HoP bf (cnt k (delL L key)) s C w fun s' u => ∃ r', u = .int .u64 r' ∧ U64 r' ∧ (s'.2 = 0 → IsH s'.1 k r' (delL L key))
set_option maxHeartbeats 2000000 in
theorem c_hdelF (bf : Nat) (key : Int) (hkey : I64 key) (k lv : Nat) (r : Int) (x : It) (hx : x.k = key) (s : St) (C : Nat → Prop) (w : World) (hL : lfA s.1 r x) (hA : AOk s.1) (hr : U64 r) (hF : Ft C (Ho bf s C) w) :
  FC Tryz.prog 140 [.pointer (some ⟨bf, 0, none⟩), .int .u64 r, .int .i64 (lv : Int), .int .i64 key] w (DelR bf k [x] key s C w) := by
 have hCb := hF.now.1
 obtain ⟨g, hg⟩ := hL.getN
 refine FC.intro Tryz.func140 rfl Tryz.ntmps140 rfl ?_
 have G : Agr (· = bf) w w := Agr.refl _ _
 refine RC.seq (RC.region rfl ?_);refine RL.box rfl rfl rfl (fun b_4 w_4 e_4 z_4 hb_4 s_4 => ?_);have G := G.trans s_4.agr;have hF := hF.sub s_4;refine RL.box rfl rfl rfl (fun b_7 w_7 e_7 z_7 hb_7 s_7 => ?_);have G := G.trans s_7.agr;have hF := hF.sub s_7;have hb_4 := hb_4.sub s_7;refine RL.asS rfl ?_;refine RL.nil (RC.back (RC.seq (RC.region rfl ?_)));refine RL.eS (.load1 sh193 rfl (hb_4.cell rfl)) ?_;refine RL.mvS rfl ?_;refine RL.call rfl ok200 ((hg ▸ c_hget bf s C r hr w_7 hF)) rfl rfl ?_;rintro _ w1 ⟨rfl, s2⟩;have G := G.trans s2.agr;have hF := hF.sub s2;refine RL.alloc ze140 rfl rfl (fun b_9 w_9 e_9 z_9 hb_9 s_9 => ?_);have d_hF_b_9 := hF.neNew e_9
 have geG_9 := agLe G e_9
 have G := G.trans s_9.agr;have hF := hF.sub s_9;refine RL.stS sh140 rfl rfl rfl hb_9 (fun w3 z3 hb_9 a3 => ?_)
 have G := agNew G a3 geG_9
 have hF := hF.updD a3 d_hF_b_9
 have hb_9 : Has w3 b_9 ((hN 3 g x.k x.v 0 []).cells) _ := hb_9.now (by kernel_rfl)
 refine RL.nil (RC.back (RC.seq (RC.seq (RC.region rfl ?_))));refine RL.eS (.field0 fo140_0 rfl) ?_;refine RL.eS (.load1 sh3 rfl (hb_9.cell rfl)) ?_;refine RL.eS (.as (v' := .bool true) (.bin rfl rfl rfl) (congrArg Value.bool (decide_eq_true (rfl)))) ?_;refine RL.nil (RC.back ?_);refine RC.cond_t rfl ?_;refine RC.seq (RC.region rfl ?_);refine RL.asS rfl ?_;refine RL.nil (RC.back ?_);refine RC.d1 8 rfl rfl rfl ?_
 have e : delL [x] key = [] := filter_none (fun z hz => by rw [List.mem_singleton.1 hz]; simpa using hx)
 exact ⟨s, C, (HoQ.refl hA).mono (Nat.zero_le _), ⟨0, rfl, zu64, fun _ => by rw [e]; exact isH_nil.2 rfl⟩, hF, G, Up.refl _ _⟩
set_option maxHeartbeats 2000000 in
theorem c_hdelT (bf : Nat) (key : Int) (hkey : I64 key) (A0 : Ar) (k lv : Nat) (hk : k ≤ 9) (hlv : lv = 9 - k) (r : Int) (L : List It) (hap : Ap L) (hl2 : 2 ≤ L.length) (hl3 : L.length ≤ 1000) (hin : hasK L key = true) (y : Node) (hy2 : y.kind = 2) (hys : y.s = L.length) (hkids : ∀ j, j < 4 → IsH A0 k (y.kids.getD j 0) (ofL lv j L)) (s : St) (hgy : getN s.1 r = y) (hyo : y.ok) (C : Nat → Prop) (w : World) (hE : Ext A0 s.1) (hA : AOk s.1) (hr : U64 r) (hF : Ft C (Ho bf s C) w)
  (ih : ∀ (r' : Int) (w' : World) (C' : Nat → Prop), IsH A0 k r' (ofL lv (dig key lv) L) → U64 r' → Ft C' (Ho bf s C') w' → FC Tryz.prog 140 [.pointer (some ⟨bf, 0, none⟩), .int .u64 r', .int .i64 ((lv + 1 : Nat) : Int), .int .i64 key] w' (DelR bf k (ofL lv (dig key lv) L) key s C' w')) :
  FC Tryz.prog 140 [.pointer (some ⟨bf, 0, none⟩), .int .u64 r, .int .i64 (lv : Int), .int .i64 key] w (DelR bf (k + 1) L key s C w) := by
 have hCb := hF.now.1
 obtain ⟨i, hi⟩ : ∃ i, dig key lv = i := ⟨_, rfl⟩
 have hi4 : i < 4 := hi ▸ dig_lt _ _
 rw [hi] at ih
 have hkl : (y.kids.take 4).length = 4 := rfl
 obtain ⟨x, hx⟩ := getSome (l := y.kids.take 4) (i := i) (by omega)
 have hkx : y.kids.getD i 0 = x := by rw [← take_getD hi4]; exact (by rw [List.getD_eq_getElem?_getD, hx]; rfl)
 have hxu : U64 x := hyo.kids x (List.mem_of_mem_take (List.mem_of_getElem? hx))
 have hxi := hkids i hi4
 rw [hkx] at hxi
 refine FC.intro Tryz.func140 rfl Tryz.ntmps140 rfl ?_
 have G : Agr (· = bf) w w := Agr.refl _ _
 refine RC.seq (RC.region rfl ?_);refine RL.box rfl rfl rfl (fun b_4 w_4 e_4 z_4 hb_4 s_4 => ?_);have d_hF_b_4 := hF.neNew e_4;have G := G.trans s_4.agr;have hF := hF.sub s_4
 have n4f : b_4 ≠ bf := fun e => d_hF_b_4 bf hCb e.symm
 refine RL.box rfl rfl rfl (fun b_7 w_7 e_7 z_7 hb_7 s_7 => ?_);have d_hF_b_7 := hF.neNew e_7;have G := G.trans s_7.agr;have hF := hF.sub s_7;have hb_4 := hb_4.sub s_7
 have n7f : b_7 ≠ bf := fun e => d_hF_b_7 bf hCb e.symm
 refine RL.asS rfl ?_;refine RL.nil (RC.back (RC.seq (RC.region rfl ?_)));refine RL.eS (.load1 sh193 rfl (hb_4.cell rfl)) ?_;refine RL.mvS rfl ?_;refine RL.call rfl ok200 ((hgy ▸ c_hget bf s C r hr w_7 hF)) rfl rfl ?_;rintro _ w1 ⟨rfl, s2⟩;have G := G.trans s2.agr;have hF := hF.sub s2;have hb_4 := hb_4.sub s2;have hb_7 := hb_7.sub s2;refine RL.alloc ze140 rfl rfl (fun b_9 w_9 e_9 z_9 hb_9 s_9 => ?_);have n_4__9 := hb_4.ne e_9;have n_7__9 := hb_7.ne e_9;have d_hF_b_9 := hF.neNew e_9
 have geG_9 := agLe G e_9
 have G := G.trans s_9.agr;have hF := hF.sub s_9;have hb_4 := hb_4.sub s_9;have hb_7 := hb_7.sub s_9
 have n9f : b_9 ≠ bf := fun e => d_hF_b_9 bf hCb e.symm
 refine RL.stS sh140 rfl rfl rfl hb_9 (fun w3 z3 hb_9 a3 => ?_)
 have G := agNew G a3 geG_9
 have hF := hF.updD a3 d_hF_b_9;have hb_4 := hb_4.upd a3 n_4__9;have hb_7 := hb_7.upd a3 n_7__9
 have hb_9 : Has w3 b_9 (y.cells) _ := hb_9.now (by kernel_rfl)
 refine RL.nil (RC.back (RC.seq (RC.seq (RC.region rfl ?_))));refine RL.eS (.field0 fo140_0 rfl) ?_;refine RL.eS (.load1 sh3 rfl (hb_9.cell rfl)) ?_;refine RL.eS (.as (v' := .bool false) (.bin rfl rfl rfl) (congrArg Value.bool (decide_eq_false (by omega)))) ?_;refine RL.nil (RC.back ?_);refine RC.cond_f rfl ?_;refine RC.skip (RC.back (RC.seq (RC.region rfl ?_)));refine RL.asS rfl ?_;refine RL.nil (RC.back (RC.seq (RC.seq (RC.region rfl ?_))));refine RL.eS (.field0 fo140_0 rfl) ?_;refine RL.eS (.load1 sh3 rfl (hb_9.cell rfl)) ?_;refine RL.eS (.as (v' := .bool true) (.bin rfl rfl rfl) (congrArg Value.bool (decide_eq_true (hy2)))) ?_;refine RL.nil (RC.back ?_);refine RC.cond_t rfl ?_;refine RC.seq (RC.region rfl ?_);refine RL.eS (.field0 fo140_5 rfl) ?_;refine RL.eS (.sliceArrHi ar138 rfl rfl (by omega)) ?_;refine RL.call rfl ok202 (c_cloneKids y 4 (by decide) (by decide) b_9 _ w3 hb_9) rfl rfl ?_;rintro _ w4 ⟨b_g, ex, rfl, hex, hcap, hge, hb_g, s5⟩
 have lt_9 := hb_9.lt
 have lt_4 := hb_4.lt
 have lt_7 := hb_7.lt
 have ltF := hF.lt
 have geG_g := Nat.le_trans G.size hge
 have n_4__g : b_4 ≠ b_g := (by omega)
 have n_7__g : b_7 ≠ b_g := (by omega)
 have n_9__g : b_9 ≠ b_g := (by omega)
 have d_hF_b_g : ∀ k, C k → k ≠ b_g := (fun k hk e => by have := ltF k hk; omega)
 have G := G.trans s5.agr;have hF := hF.sub s5;have hb_4 := hb_4.sub s5;have hb_7 := hb_7.sub s5;have hb_9 := hb_9.sub s5
 have ngf : b_g ≠ bf := fun e => d_hF_b_g bf hCb e.symm
 refine RL.asS rfl ?_;refine RL.nil (RC.back (RC.seq (RC.region rfl ?_)));refine RL.eS (.load1 sh2 rfl (hb_7.cell rfl)) ?_;refine RL.mvS rfl ?_;refine RL.call rfl ok201 ((hi ▸ c_digit key lv (by omega) w4)) rfl rfl ?_;rintro _ w6 ⟨rfl, s7⟩;have G := G.trans s7.agr;have hF := hF.sub s7;have hb_4 := hb_4.sub s7;have hb_7 := hb_7.sub s7;have hb_9 := hb_9.sub s7;have hb_g := hb_g.sub s7;refine RL.asS rfl ?_;refine RL.nil (RC.back ?_);refine RC.drawD (fun k => k = bf ∨ k = b_g) [10, 12] w6.heap.size 13 rfl rfl mxo (fun w8 s9 => ?_);have ltD_b_4 := hb_4.lt;have ltD_b_7 := hb_7.lt;have ltD_b_g := hb_g.lt;have G := G.trans s9.agr;have hF := hF.sub s9;have hb_4 := hb_4.sub s9;have hb_7 := hb_7.sub s9;have hb_9 := hb_9.sub s9;have hb_g := hb_g.sub s9;refine RD.tS 0 rfl (fun w' s' => .move rfl) ?_;refine RD.tS 1 rfl (fun w' s' => .move rfl) ?_;refine RD.tS 2 rfl (fun w' s' => .load1 sh193 rfl ((hb_4.step s' (fun e => e.elim (fun e => e.elim (fun e => n4f e) (fun e => n_4__g e)) (fun e => Nat.not_le.2 ltD_b_4 e))).cell rfl)) ?_;refine RD.tS 3 rfl (fun w' s' => .move rfl) ?_;refine RD.tS 4 rfl (fun w' s' => .move rfl) ?_;refine RD.tS 5 rfl (fun w' s' => .indexO sl73 rfl rfl (by omega)) ?_;refine RD.takeL 6 rfl (by kernel_rfl) (by kernel_rfl) (by kernel_rfl) (by kernel_rfl) (fun w' s' => .load1 sh31 rfl ((hb_g.step s' (fun e => Nat.not_le.2 ltD_b_g e)).cell (ks_cellE hex hx))) rfl rfl ?_;refine RD.tS 7 rfl (fun w' s' => .move rfl) ?_;refine RD.tS 8 rfl (fun w' s' => .as (.bin rfl rfl rfl) (wi64 (y := ((lv + 1 : Nat) : Int)) (by omega) (by omega))) ?_;refine RD.tS 9 rfl (fun w' s' => .load1 sh2 rfl ((hb_7.step s' (fun e => e.elim (fun e => e.elim (fun e => n7f e) (fun e => n_7__g e)) (fun e => Nat.not_le.2 ltD_b_7 e))).cell rfl)) ?_;refine RD.oneS 10 rfl ?_;refine RL.call rfl ok140 (ih x w8 C hxi hxu hF) rfl rfl ?_;rintro _ w10 ⟨s1, C1, g1, ⟨r1, rfl, hu1, h1⟩, hF1, ag, up⟩;have d_hF_b_g := upNe up d_hF_b_g hb_g.lt
 have up := up.le G.size
 have G := G.trans ag;have hb_4 := hb_4.upd ag n4f;have hb_9 := hb_9.upd ag n9f;have hb_g := hb_g.upd ag ngf
 have hF := hF1
 refine RD.backW rfl (ag.mono fun k _ e => .inl (.inl e)) ?_;refine RD.tS 11 rfl (fun w' s' => .indexO sl73 rfl rfl (by omega)) ?_;refine RD.oneS 12 rfl ?_;refine RL.store sh31 rfl rfl rfl hb_g (by rw [ks_lenE hex, hkl]; show 0 + i * 1 + 1 ≤ 4 + _; omega) (by rfl) rfl (fun w12 z12 hb_g a12 => ?_)
 have G := agNew G a12 geG_g
 have hF := hF.updD a12 d_hF_b_g;have hb_4 := hb_4.upd a12 n_4__g;have hb_9 := hb_9.upd a12 n_9__g
 have hb_g : Has w12 b_g (((y.kids.take 4).set i r1).map rC ++ ex).flatten 31 := ks_setE (i := i) hex hb_g (by omega)
 obtain ⟨ks, hksd⟩ : ∃ ks, ks = (y.kids.take 4).set i r1 := ⟨_, rfl⟩
 rw [← hksd] at hb_g
 have hksl : ks.length = 4 := (by rw [hksd, List.length_set]; rfl)
 have hi9 : dig key (9 - k) = i := hlv ▸ hi
 have hkn := del_kids (A0 := A0) (s1 := s1) hi9 hkl (fun j hj => by rw [take_getD hj, ← hlv]; exact hkids j hj) hE g1 (by rw [← hlv]; exact h1) hksd
 have hku : ∀ z ∈ ks, U64 z := (fun z hz => by rw [hksd] at hz; rcases List.mem_or_eq_of_mem_set hz with hz | rfl; exact hyo.kids z (List.mem_of_mem_take hz); exact hu1)
 rw [hlv] at g1
 have hdl := delL_len (key := key) hap
 rw [hin, if_pos rfl] at hdl
 refine RD.backW rfl (a12.mono fun k _ e => e ▸ (.inl (.inr (rfl)))) ?_;refine RD.done (by kernel_rfl) (RC.back ?_);refine RC.seq (RC.seq (RC.region rfl ?_));refine RL.eS (.field0 fo140_4 rfl) ?_;refine RL.eS (.load1 sh2 rfl (hb_9.cell rfl)) ?_;refine RL.eS (.bin rfl rfl rfl) ?_;refine RL.nil (RC.back ?_);refine RC.cond_dec rfl (fun h13 => ?_) (fun h13 => ?_)
 ·
  have q48 : L.length = 2 := (by have := h13; omega)
  refine RC.seq (RC.region rfl ?_);refine RL.mvS rfl ?_;refine RL.eS (.len sl73 rfl) ?_;refine RL.mvS rfl ?_;refine RL.nil (RC.back (RC.block ?_));refine RC.loop (α := Nat) (fun j => [(4, .pointer (some ⟨b_4, 0, none⟩)), (9, .pointer (some ⟨b_9, 0, none⟩)), (10, .slice (some ⟨b_g, 0, none⟩) 4 (4 + ex.length)), (49, .slice (some ⟨b_g, 0, none⟩) 4 (4 + ex.length)), (50, .int .i64 ((4 : Nat) : Int)), (51, .int .i64 (j : Int))]) (fun j w14 => j ≤ 4 ∧ (∀ q, q < j → ks.getD q 0 = 0) ∧ Has w14 b_4 [.pointer (some ⟨bf, 0, none⟩)] 193 ∧ Has w14 b_9 y.cells 140 ∧ Has w14 b_g (ks.map rC ++ ex).flatten 31 ∧ Ft C1 (Ho bf s1 C1) w14 ∧ Agr (· = bf) w w14) (fun j => 4 - j) 0 (keep_of (by repeat (first | exact trivial | refine And.intro rfl ?_))) (⟨Nat.zero_le _, fun q h => absurd h (by omega), hb_4, hb_9, hb_g, hF, G⟩) (fun j w14 hJ => ?_)
  obtain ⟨hj, hz, hb_4, hb_9, hb_g, hF, G⟩ := hJ
  refine RC.seq (RC.region rfl ?_);refine RL.eS (.bin rfl rfl rfl) ?_;refine RL.nil (RC.back (RC.seq ?_));refine RC.cond_dec rfl (fun h15 => ?_) (fun h15 => ?_)
  ·
   obtain ⟨z, hz1⟩ := getSome (l := ks) (i := j) (by omega)
   have hzd : ks.getD j 0 = z := (by rw [List.getD_eq_getElem?_getD, hz1]; rfl)
   have hzu := hku z (List.mem_of_getElem? hz1)
   refine RC.skip (RC.back (RC.seq (RC.block (RC.seq (RC.region rfl ?_)))));refine RL.eS (.indexO sl73 rfl rfl (by omega)) ?_;refine RL.eS (.load1 sh31 rfl (hb_g.cell (ks_cellE hex hz1))) ?_;refine RL.asS rfl ?_;refine RL.nil (RC.back (RC.seq (RC.region rfl ?_)));refine RL.mvS rfl ?_;refine RL.eS (.bin rfl rfl rfl) ?_;refine RL.nil (RC.back ?_);refine RC.cond_dec rfl (fun h16 => ?_) (fun h16 => ?_)
   ·
    have hz0 : ¬ z = 0 := h16
    refine RC.seq (RC.region rfl ?_);refine RL.mvS rfl ?_;refine RL.asS rfl ?_;refine RL.nil (RC.back ?_);refine RC.d1 8 rfl rfl rfl ?_
    obtain ⟨p1, p2⟩ := del_one hap q48 hin hi9 g1 hkn (by omega) hzd hz0
    exact ⟨s1, C1, p1, ⟨z, rfl, hzu, p2⟩, hF, G, up⟩
   ·
    have hz0 : z = 0 := Decidable.not_not.1 h16
    refine RC.skip (RC.back (RC.region rfl ?_));refine RL.eS (.as (.bin rfl rfl rfl) (wi64 (y := ((j + 1 : Nat) : Int)) (by omega) (by omega))) ?_;refine RL.mvS rfl ?_
    exact RL.nil (fun a ka => ⟨j + 1, ⟨by omega, fun q hq => by by_cases e : q = j; rw [e, hzd]; exact hz0; exact hz q (by omega), hb_4, hb_9, hb_g, hF, G⟩, by omega, ka.keep (keep_of (by repeat (first | exact trivial | refine And.intro rfl ?_)))⟩)
  ·
   obtain rfl : j = 4 := (by omega)
   have hn2 : s1.2 = 0 → 2 ≤ (delL L key).length := (fun h0 => absurd hz (del_some hap q48 hin (hkn h0)))
   refine RC.exit rfl (RC.back (RC.seq (RC.region rfl ?_)));refine RL.eS (.load1 sh193 rfl (hb_4.cell rfl)) ?_;refine RL.eS (.field0 fo140_0 rfl) ?_;refine RL.eS (.load1 sh3 rfl (hb_9.cell rfl)) ?_;refine RL.mvS rfl ?_;refine RL.call rfl ok203 (c_hnode bf s1 C1 y.kind hyo.kind ks hku (by omega) (some ⟨b_g, 0, none⟩) 4 _ hksl.symm (· = b_g) w14 hF (ks_ftE hb_g)) rfl rfl ?_;rintro _ w17 ⟨s2, r2, C2, rfl, hm, hF2, ag2, up2⟩
   have up2 := up.trans (up2.le G.size)
   have G := G.trans ag2
   rw [hy2] at hm
   refine RL.asS rfl ?_;refine RL.nil (RC.back ?_);refine RC.d1 8 rfl rfl rfl ?_
   obtain ⟨p1, p2⟩ := del_node hap hl3 hi9 hksl g1 hkn hn2 hm
   exact ⟨s2, C2, p1, ⟨r2, rfl, hm.u64, p2⟩, hF2, G, up2⟩
 ·
  have q48 : ¬ L.length = 2 := (by have := h13; omega)
  have hn2 : s1.2 = 0 → 2 ≤ (delL L key).length := (fun _ => by omega)
  refine RC.skip (RC.back (RC.seq (RC.region rfl ?_)));refine RL.eS (.load1 sh193 rfl (hb_4.cell rfl)) ?_;refine RL.eS (.field0 fo140_0 rfl) ?_;refine RL.eS (.load1 sh3 rfl (hb_9.cell rfl)) ?_;refine RL.mvS rfl ?_;refine RL.call rfl ok203 (c_hnode bf s1 C1 y.kind hyo.kind ks hku (by omega) (some ⟨b_g, 0, none⟩) 4 _ hksl.symm (· = b_g) w12 hF (ks_ftE hb_g)) rfl rfl ?_;rintro _ w19 ⟨s2, r2, C2, rfl, hm, hF2, ag2, up2⟩
  have up2 := up.trans (up2.le G.size)
  have G := G.trans ag2
  rw [hy2] at hm
  refine RL.asS rfl ?_;refine RL.nil (RC.back ?_);refine RC.d1 8 rfl rfl rfl ?_
  obtain ⟨p1, p2⟩ := del_node hap hl3 hi9 hksl g1 hkn hn2 hm
  exact ⟨s2, C2, p1, ⟨r2, rfl, hm.u64, p2⟩, hF2, G, up2⟩
theorem c_del1H (bf b4 b7 : Nat) (s : St) (C : Nat → Prop) (r key : Int) (hr : U64 r) (w : World) (hF : Ft C (Ho bf s C) w) (hb4 : Has w b4 [.pointer (some ⟨bf, 0, none⟩)] 193) (hb7 : Has w b7 [.int .i64 key] 2) :
  FC Tryz.prog 211 [.int .u64 r, .pointer (some ⟨b4, 0, none⟩), .pointer (some ⟨b7, 0, none⟩)] w (Val (.bool (decide ((getN s.1 r).n = key))) w) := by
 refine FC.intro Tryz.func211 rfl Tryz.ntmps211 rfl ?_
 have S := Sub.refl w
 refine RC.seq (RC.region rfl ?_);refine RL.asS rfl ?_;refine RL.nil (RC.back (RC.seq ?_));refine RC.draw rfl mxo (by kernel_rfl) ?_;refine RQ.ev (.load1 sh193 rfl (hb4.cell rfl)) rfl rfl ?_;refine RQ.ev (.move rfl) rfl rfl ?_;refine RQ.call rfl ok200 (fun w' s' => c_hget bf s C r hr w' (hF.sub (S.trans s'))) rfl rfl ?_;refine RQ.ev (.fieldV Tryz.underlying140 rfl sh2 rfl rfl) rfl rfl ?_;refine RQ.ev (.load1 sh2 rfl (hb7.cell rfl)) rfl rfl ?_;refine RQ.ev (.bin rfl rfl rfl) rfl rfl ?_;refine RQ.ev (.assign rfl) rfl rfl ?_;refine RQ.nil (fun w1 s2 => RC.back ?_);have S := S.trans s2;refine RC.d1 4 rfl rfl rfl ?_
 exact ⟨rfl, S⟩
theorem filt_zip {A : Ar} {key : Int} {p : Int → Bool} : ∀ (m : List It) (ks : List Int), ks.length = m.length → (∀ i x, m[i]? = some x → lfA A (ks.getD i 0) x ∧ p (ks.getD i 0) = decide (x.k = key)) → (ks.filter fun z => !p z).length = (delL m key).length ∧ ∀ i x, (delL m key)[i]? = some x → lfA A ((ks.filter fun z => !p z).getD i 0) x
  | [], ks, hl, _ => by
    rw [List.eq_nil_of_length_eq_zero hl]
    exact ⟨rfl, fun i x h => by cases h⟩
  | x :: m, [], hl, _ => by cases hl
  | x :: m, z :: ks, hl, h => by
    have h0 := h 0 x rfl
    have ih := filt_zip m ks (by simpa using hl) (fun i y hy => h (i + 1) y hy)
    have hz : p z = decide (x.k = key) := h0.2
    unfold delL at ih ⊢
    rw [List.filter_cons, List.filter_cons]
    by_cases e : x.k = key
    · rw [if_neg (by rw [hz]; simpa using e), if_neg (by simpa using e)]
      exact ih
    · rw [if_pos (by rw [hz]; simpa using e), if_pos (by simpa using e)]
      refine ⟨by rw [List.length_cons, List.length_cons, ih.1], fun i y hy => ?_⟩
      cases i with
      | zero => cases hy; exact h0.1
      | succ i => exact ih.2 i y hy
set_option maxHeartbeats 4000000 in
theorem c_hdelC (bf : Nat) (key : Int) (hkey : I64 key) (A0 : Ar) (r : Int) (L m : List It) (hap : Ap L) (hin : hasK L key = true) (hp : m.Perm L) (hs : Srt m) (hl2 : 2 ≤ m.length) (h9 : m.length ≤ 9) (y : Node) (hy4 : y.kind = 4) (hys : y.s = L.length) (hlf : ∀ i x, m[i]? = some x → lfA A0 (y.kids.getD i 0) x) (hz : ∀ i, m.length ≤ i → i < 9 → y.kids.getD i 0 = 0) (s : St) (hgy : getN s.1 r = y) (hyo : y.ok) (C : Nat → Prop) (w : World) (hE : Ext A0 s.1) (hA : AOk s.1) (hr : U64 r) (hF : Ft C (Ho bf s C) w) :
  FC Tryz.prog 140 [.pointer (some ⟨bf, 0, none⟩), .int .u64 r, .int .i64 10, .int .i64 key] w (DelR bf 0 L key s C w) := by
 have hCb := hF.now.1
 have hkl : (y.kids.take m.length).length = m.length := by rw [List.length_take]; show min _ 9 = _; omega
 have hkL : kidsL y = y.kids.take m.length := kidsL_take h9 (fun i hi => by obtain ⟨x, hx⟩ := getSome (l := m) hi; exact (hlf i x hx).nz) hz
 have hlf2 : ∀ i x, m[i]? = some x → lfA A0 ((y.kids.take m.length).getD i 0) x := fun i x hx => by rw [take_getD (lt_of_get hx)]; exact hlf i x hx
 have hku : ∀ z ∈ y.kids.take m.length, U64 z := fun z hz => hyo.kids z (List.mem_of_mem_take hz)
 have hknz : ∀ z ∈ y.kids.take m.length, ¬ z = 0 := fun z hz => by rw [← hkL] at hz; simpa using (List.mem_filter.1 hz).2
 obtain ⟨ks, hks⟩ : ∃ ks, ks = y.kids.take m.length := ⟨_, rfl⟩
 rw [← hks] at hkl hkL hlf2 hku hknz
 obtain ⟨q1, q2⟩ := filt_zip (A := s.1) (key := key) (p := fun z => decide ((getN s.1 z).n = key)) m ks hkl (fun i x hx => by
  have h1 := (hlf2 i x hx).ext hE
  obtain ⟨g, e⟩ := h1.getN
  exact ⟨h1, by rw [e]; rfl⟩)
 obtain ⟨kd, hkd⟩ : ∃ kd, kd = ks.filter fun z => !decide ((getN s.1 z).n = key) := ⟨_, rfl⟩
 rw [← hkd] at q1 q2
 have hdl := delL_len (key := key) hap
 rw [hin, if_pos rfl] at hdl
 have hpd : (delL m key).Perm (delL L key) := delL_perm hp
 have hpl := hpd.length_eq
 have hpl2 := hp.length_eq
 have hdu : ∀ z ∈ kd, U64 z := fun z hz => hku z (by rw [hkd] at hz; exact (List.mem_filter.1 hz).1)
 have hdnz : ∀ z ∈ kd, ¬ z = 0 := fun z hz => hknz z (by rw [hkd] at hz; exact (List.mem_filter.1 hz).1)
 have hone : L.length = 2 → ∀ z, kd[0]? = some z → IsH s.1 0 z (delL L key) := fun h2 z hz => by
  obtain ⟨t, ht⟩ := List.length_eq_one_iff.1 (show (delL m key).length = 1 by omega)
  have h3 := q2 0 t (by rw [ht]; rfl)
  rw [List.getD_eq_getElem?_getD, hz] at h3
  exact (isH_one.2 h3 : IsH s.1 0 z [t]).perm (ht ▸ hpd)
 refine FC.intro Tryz.func140 rfl Tryz.ntmps140 rfl ?_
 have G : Agr (· = bf) w w := Agr.refl _ _
 refine RC.seq (RC.region rfl ?_);refine RL.box rfl rfl rfl (fun b_4 w_4 e_4 z_4 hb_4 s_4 => ?_);have d_hF_b_4 := hF.neNew e_4;have G := G.trans s_4.agr;have hF := hF.sub s_4
 have n4f : b_4 ≠ bf := fun e => d_hF_b_4 bf hCb e.symm
 refine RL.box rfl rfl rfl (fun b_7 w_7 e_7 z_7 hb_7 s_7 => ?_);have d_hF_b_7 := hF.neNew e_7;have G := G.trans s_7.agr;have hF := hF.sub s_7;have hb_4 := hb_4.sub s_7
 have n7f : b_7 ≠ bf := fun e => d_hF_b_7 bf hCb e.symm
 refine RL.asS rfl ?_;refine RL.nil (RC.back (RC.seq (RC.region rfl ?_)));refine RL.eS (.load1 sh193 rfl (hb_4.cell rfl)) ?_;refine RL.mvS rfl ?_;refine RL.call rfl ok200 ((hgy ▸ c_hget bf s C r hr w_7 hF)) rfl rfl ?_;rintro _ w1 ⟨rfl, s2⟩;have G := G.trans s2.agr;have hF := hF.sub s2;have hb_4 := hb_4.sub s2;have hb_7 := hb_7.sub s2;refine RL.alloc ze140 rfl rfl (fun b_9 w_9 e_9 z_9 hb_9 s_9 => ?_);have n_4__9 := hb_4.ne e_9;have n_7__9 := hb_7.ne e_9;have d_hF_b_9 := hF.neNew e_9
 have geG_9 := agLe G e_9
 have G := G.trans s_9.agr;have hF := hF.sub s_9;have hb_4 := hb_4.sub s_9;have hb_7 := hb_7.sub s_9
 have n9f : b_9 ≠ bf := fun e => d_hF_b_9 bf hCb e.symm
 refine RL.stS sh140 rfl rfl rfl hb_9 (fun w3 z3 hb_9 a3 => ?_)
 have G := agNew G a3 geG_9
 have hF := hF.updD a3 d_hF_b_9;have hb_4 := hb_4.upd a3 n_4__9;have hb_7 := hb_7.upd a3 n_7__9
 have hb_9 : Has w3 b_9 (y.cells) _ := hb_9.now (by kernel_rfl)
 refine RL.nil (RC.back (RC.seq (RC.seq (RC.region rfl ?_))));refine RL.eS (.field0 fo140_0 rfl) ?_;refine RL.eS (.load1 sh3 rfl (hb_9.cell rfl)) ?_;refine RL.eS (.as (v' := .bool false) (.bin rfl rfl rfl) (congrArg Value.bool (decide_eq_false (by omega)))) ?_;refine RL.nil (RC.back ?_);refine RC.cond_f rfl ?_;refine RC.skip (RC.back (RC.seq (RC.region rfl ?_)));refine RL.asS rfl ?_;refine RL.nil (RC.back (RC.seq (RC.seq (RC.region rfl ?_))));refine RL.eS (.field0 fo140_0 rfl) ?_;refine RL.eS (.load1 sh3 rfl (hb_9.cell rfl)) ?_;refine RL.eS (.as (v' := .bool false) (.bin rfl rfl rfl) (congrArg Value.bool (decide_eq_false (by omega)))) ?_;refine RL.nil (RC.back ?_);refine RC.cond_f rfl ?_;refine RC.region rfl ?_;refine RL.eS (.load1 sh193 rfl (hb_4.cell rfl)) ?_;refine RL.eS (.loadR (y.cells) sh140 rfl (hb_9.row) rfl) ?_;refine RL.call rfl ok204 (c_leaves bf y w3) rfl rfl ?_;rintro _ w4 ⟨b_g, ex, rfl, hex, hcap, hge, hb_g, s5⟩
 have lt_9 := hb_9.lt
 have lt_4 := hb_4.lt
 have lt_7 := hb_7.lt
 have ltF := hF.lt
 have geG_g := Nat.le_trans G.size hge
 have n_4__g : b_4 ≠ b_g := (by omega)
 have n_7__g : b_7 ≠ b_g := (by omega)
 have n_9__g : b_9 ≠ b_g := (by omega)
 have d_hF_b_g : ∀ k, C k → k ≠ b_g := (fun k hk e => by have := ltF k hk; omega)
 have G := G.trans s5.agr;have hF := hF.sub s5;have hb_4 := hb_4.sub s5;have hb_7 := hb_7.sub s5;have hb_9 := hb_9.sub s5
 have ngf : b_g ≠ bf := fun e => d_hF_b_g bf hCb e.symm
 rw [hkL] at hb_g hcap ⊢
 refine RL.eS (.func (xs := []) (ys := [_, _]) rfl rfl) ?_;refine RL.call rfl ok210 (c_delFR (fun z => decide ((getN s.1 z).n = key)) ks b_g ex hex hcap (by omega) 211 ok211 [] [.pointer (some ⟨b_4, 0, none⟩), .pointer (some ⟨b_7, 0, none⟩)] w4 hb_g (fun z hz w' a => c_del1H bf b_4 b_7 s C z key (hku z hz) w' (hF.updD a d_hF_b_g) (hb_4.upd a n_4__g) (hb_7.upd a n_7__g))) rfl rfl ?_;rintro _ w6 ⟨rfl, ⟨ex', hex', hcap', hg'⟩, ag⟩
 have G := agNew G ag geG_g
 have hF := hF.updD ag d_hF_b_g;have hb_4 := hb_4.upd ag n_4__g;have hb_9 := hb_9.upd ag n_9__g
 have hb_g := hg'
 rw [← hkd] at hb_g hcap' ⊢
 refine RL.asS rfl ?_;refine RL.nil (RC.back (RC.seq (RC.seq (RC.region rfl ?_))));refine RL.eS (.field0 fo140_4 rfl) ?_;refine RL.eS (.load1 sh2 rfl (hb_9.cell rfl)) ?_;refine RL.eS (.bin rfl rfl rfl) ?_;refine RL.nil (RC.back ?_);refine RC.cond_dec rfl (fun h8 => ?_) (fun h8 => ?_)
 ·
  have q48 : L.length = 2 := (by have := h8; omega)
  refine RC.seq (RC.region rfl ?_);refine RL.mvS rfl ?_;refine RL.eS (.len sl73 rfl) ?_;refine RL.mvS rfl ?_;refine RL.nil (RC.back (RC.block ?_));refine RC.loop (α := Nat) (fun j => [(4, .pointer (some ⟨b_4, 0, none⟩)), (9, .pointer (some ⟨b_9, 0, none⟩)), (49, .slice (some ⟨b_g, 0, none⟩) kd.length (ks.length + ex.length)), (50, .int .i64 (kd.length : Int)), (51, .int .i64 (j : Int))]) (fun j w9 => j = 0 ∧ Has w9 b_g (kd.map rC ++ ex').flatten 31 ∧ Ft C (Ho bf s C) w9 ∧ Agr (· = bf) w w9) (fun j => 0) 0 (keep_of (by repeat (first | exact trivial | refine And.intro rfl ?_))) (⟨rfl, hb_g, hF, G⟩) (fun j w9 hJ => ?_)
  obtain ⟨hj, hb_g, hF, G⟩ := hJ; subst hj
  refine RC.seq (RC.region rfl ?_);refine RL.eS (.bin rfl rfl rfl) ?_;refine RL.nil (RC.back (RC.seq ?_));refine RC.cond_dec rfl (fun h10 => ?_) (fun h10 => ?_)
  ·
   obtain ⟨z, hz1⟩ := getSome (l := kd) (i := 0) (by omega)
   have hzm := List.mem_of_getElem? hz1
   refine RC.skip (RC.back (RC.seq (RC.block (RC.seq (RC.region rfl ?_)))));refine RL.eS (.indexO sl73 rfl rfl (by omega)) ?_;refine RL.eS (.load1 sh31 rfl (hb_g.cell (ks_cellE hex' hz1))) ?_;refine RL.asS rfl ?_;refine RL.nil (RC.back (RC.seq (RC.region rfl ?_)));refine RL.mvS rfl ?_;refine RL.eS (.bin rfl rfl rfl) ?_;refine RL.nil (RC.back ?_);refine RC.cond_dec rfl (fun h11 => ?_) (fun h11 => ?_)
   ·
    refine RC.seq (RC.region rfl ?_);refine RL.mvS rfl ?_;refine RL.asS rfl ?_;refine RL.nil (RC.back ?_);refine RC.d1 8 rfl rfl rfl ?_
    have e1 : cnt 0 (delL L key) = (delL L key).length := cnt_few (by omega)
    exact ⟨s, C, (HoQ.refl hA).mono (Nat.zero_le _), ⟨z, rfl, hdu z hzm, fun _ => hone q48 z hz1⟩, hF, G, Up.refl _ _⟩
   ·
    exact absurd (Decidable.not_not.1 h11) (hdnz z hzm)
  ·
   exact absurd h10 (by omega)
 ·
  have q48 : ¬ L.length = 2 := (by have := h8; omega)
  refine RC.skip (RC.back (RC.seq (RC.region rfl ?_)));refine RL.eS (.load1 sh193 rfl (hb_4.cell rfl)) ?_;refine RL.eS (.field0 fo140_0 rfl) ?_;refine RL.eS (.load1 sh3 rfl (hb_9.cell rfl)) ?_;refine RL.mvS rfl ?_;refine RL.call rfl ok203 (c_hnode bf s C y.kind hyo.kind kd hdu (by omega) (some ⟨b_g, 0, none⟩) kd.length _ rfl (· = b_g) w6 hF (ks_ftE hb_g)) rfl rfl ?_;rintro _ w12 ⟨s2, r2, C2, rfl, hm, hF2, ag2, up2⟩
  have up2 := up2.le G.size
  have G := G.trans ag2
  rw [hy4] at hm
  refine RL.asS rfl ?_;refine RL.nil (RC.back ?_);refine RC.d1 8 rfl rfl rfl ?_
  have p := mk_clash hA hpd hs.sub q1 (fun _ => by omega) (fun _ => by omega) (fun _ => q2) hm
  exact ⟨s2, C2, (hm.hq p.1).mono (by rw [cnt_0 (by omega)]; omega), ⟨r2, rfl, hm.u64, p.2⟩, hF2, G, up2⟩
theorem c_hdel (bf : Nat) (key : Int) (hkey : I64 key) (A0 : Ar) : ∀ (k lv : Nat) (r : Int) (L : List It) (s : St) (C : Nat → Prop) (w : World), k ≤ 10 → lv = 10 - k → IsH A0 k r L → Ap L → hasK L key = true → L.length ≤ 1000 → Ext A0 s.1 → AOk s.1 → U64 r → Ft C (Ho bf s C) w →
    FC Tryz.prog 140 [.pointer (some ⟨bf, 0, none⟩), .int .u64 r, .int .i64 (lv : Int), .int .i64 key] w (DelR bf k L key s C w)
  | k, lv, r, L, s, C, w, hk, hlv, hL, hap, hin, hl, hE, hA, hr, hF => by
    rcases row_cases L with rfl | ⟨x, rfl⟩ | h2
    · cases hin
    · have hx : x.k = key := by obtain ⟨z, hz, e⟩ := hasK_iff.1 hin; rw [List.mem_singleton.1 hz] at e; exact e
      exact c_hdelF bf key hkey k lv r x hx s C w ((isH_one.1 hL).ext hE) hA hr hF
    · cases k with
      | zero =>
        obtain rfl : lv = 10 := by omega
        obtain ⟨y, m, q1, q2, q9, q3, q4, q5, q6, q7, q8⟩ := clash_node ((isH_clash h2).1 hL) h2
        exact c_hdelC bf key hkey A0 r L m hap hin q3 q4 q5 q6 y q2 q9 q7 q8 s (getN_yes (hE.get q1)) (hF.now.nok y (getA_nok (hE.get q1))) C w hE hA hr hF
      | succ k =>
        obtain ⟨y, q1, q2, q3, q4⟩ := trie_node hL h2
        have e : 9 - k = lv := by omega
        rw [e] at q4
        have hin2 : hasK (ofL lv (dig key lv) L) key = true := by
          obtain ⟨z, hz, e⟩ := hasK_iff.1 hin
          exact hasK_iff.2 ⟨z, ofL_mem.2 ⟨hz, by rw [e]⟩, e⟩
        exact c_hdelT bf key hkey A0 k lv (by omega) (by omega) r L hap h2 hl hin y q2 q3 q4 s (getN_yes (hE.get q1)) (hF.now.nok y (getA_nok (hE.get q1))) C w hE hA hr hF
          (fun r' w' C' g1 g2 g3 => c_hdel bf key hkey A0 k (lv + 1) r' _ s C' w' (by omega) (by omega) g1 (hap.of _ _) hin2 (Nat.le_trans (ofL_len _ _ _) hl) hE hA g2 g3)
def CallH (A : Ar) (r1 : Int) (J : St → Int → Int → World → Prop) (D : Nat → Prop) (w w' : World) (B : Ar) (r e : Int) : Prop :=
  (isTabB A r1 = false ∧ e = 1 ∧ B = ar0 ∧ r = 0 ∧ Sub w w') ∨ isTabB A r1 = true ∧ ∃ s' r0 e0, Ft D (J s' r0 e0) w' ∧ e = (if e0 = 0 then s'.2 else e0) ∧ (¬ e = 0 → B = ar0 ∧ r = 0) ∧ (e = 0 → B = s'.1 ∧ r = r0)
def ArH (M : Nat → Prop) (w w' : World) (J : Ar → Int → Int → Prop) (v : Value) : Prop :=
  ∃ na fa nc fc B r e M', v = .tuple #[arV na fa nc fc B, .int .u64 r, .int .i64 e] ∧ U64 r ∧ B.nodes.length ≤ nc ∧ B.free.length ≤ fc ∧ Ft M' (fun u => ArR u na fa B) w' ∧ Up M w M' ∧ J B r e
set_option maxHeartbeats 1000000 in
theorem c_hcall (f : FuncId) (hf : calleeOK Tryz.prog f = true) (cs : List Value) (A : Ar) (na fa : Option Addr) (nc fc : Nat) (hnc : A.nodes.length ≤ nc) (hfc : A.free.length ≤ fc) (r1 : Int) (hr1 : U64 r1)
  (D M : Nat → Prop) (J : St → Int → Int → World → Prop) (w : World) (hA : Ft M (fun u => ArR u na fa A) w) (hD : ∀ k, D k → k < w.heap.size)
  (hT : isTabB A r1 = true → ∀ (bf : Nat) (C : Nat → Prop) (w1 : World), Sub w w1 → w.heap.size ≤ bf → Ft C (Ho bf (A, 0) C) w1 → (∀ k, C k → k = bf ∨ M k) →
   FC Tryz.prog f ([.pointer (some ⟨bf, 0, none⟩)] ++ cs) w1 (fun v w2 => ∃ s' r e C', v = .tuple #[.int .u64 r, .int .i64 e] ∧ U64 r ∧ Ft C' (Ho bf s' C') w2 ∧ Agr (fun k => k = bf ∨ D k) w1 w2 ∧ Up C w1 C' ∧ Ft D (J s' r e) w2)) :
  FC Tryz.prog 134 [arV na fa nc fc A, .int .u64 r1, .func (.func f) #[] cs.toArray] w (fun v w' => Agr D w w' ∧ ArH M w w' (CallH A r1 J D w w') v) := by
 refine FC.intro Tryz.func134 rfl Tryz.ntmps134 rfl ?_
 have S := Sub.refl w
 have G : Agr D w w := Agr.refl _ _
 refine RC.seq (RC.region rfl ?_);refine RL.box rfl rfl rfl (fun b_3 w_3 e_3 z_3 hb_3 s_3 => ?_);have S := S.trans s_3;have G := G.trans s_3.agr;have hA := hA.sub s_3
 have hb_3 : Has w_3 b_3 ([.slice na A.nodes.length nc, .slice fa A.free.length fc]) _ := hb_3
 refine RL.alloc ze26 rfl rfl (fun b_6 w_6 e_6 z_6 hb_6 s_6 => ?_);have ge_6 := S.le e_6;have n_3__6 := hb_3.ne e_6;have d_hA_b_6 := hA.neNew e_6;have S := S.trans s_6
 have geG_6 := agLe G e_6
 have G := G.trans s_6.agr;have hA := hA.sub s_6;have hb_3 := hb_3.sub s_6;refine RL.asS rfl ?_;refine RL.asS rfl ?_;refine RL.nil (RC.back (RC.seq (RC.seq (RC.region rfl ?_))));refine RL.eS (.loadR ([.slice na A.nodes.length nc, .slice fa A.free.length fc]) sh26 rfl hb_3.row rfl) ?_;refine RL.mvS rfl ?_;refine RL.call rfl ok51 (c_hRight A na fa nc fc hnc hfc r1 hr1 w_6 hA.now) rfl rfl ?_;rintro _ w1 ⟨rfl, s2⟩;have S := S.trans s2;have G := G.trans s2.agr;have hA := hA.sub s2;have hb_3 := hb_3.sub s2;have hb_6 := hb_6.sub s2;refine RL.eS (.not rfl) ?_;refine RL.nil (RC.back ?_);refine RC.cond rfl (fun h3 => ?_) (fun h3 => ?_)
 ·
  have hno : isTabB A r1 = false := (by simpa using h3)
  refine RC.seq (RC.region rfl ?_);refine RL.eS (.buildS ze26 pl26 rfl rfl) ?_;refine RL.stS sh26 rfl rfl rfl hb_6 (fun w4 z4 hb_6 a4 => ?_);have S := S.upd a4 ge_6
  have G := agNew G a4 geG_6
  have hA := hA.updD a4 d_hA_b_6;have hb_3 := hb_3.upd a4 n_3__6
  have hb_6 : Has w4 b_6 ([.slice none 0 0, .slice none 0 0]) _ := hb_6.now (by kernel_rfl)
  refine RL.asS rfl ?_;refine RL.asS rfl ?_;refine RL.nil (RC.back ?_);refine RC.done (rs := [.cell 6 26, .tmp 7, .tmp 8]) (vs := [_, _, _]) rfl rfl ⟨⟨_, rfl, .inr ⟨[.slice none 0 0, .slice none 0 0], sh26, hb_6.row, rfl⟩⟩, rfl, rfl, trivial⟩ ?_
  exact ⟨G, none, none, 0, 0, ar0, 0, 1, fun _ => False, rfl, zu0, by decide, by decide, ⟨fun _ h => h.elim, fun _ _ => ⟨Sl.nil _ _ _, Sl.nil _ _ _, by simp [ar0], by simp [ar0]⟩⟩, fun _ h => h.elim, .inl ⟨hno, rfl, rfl, rfl, S⟩⟩
 ·
  have hyes : isTabB A r1 = true := (by simpa using h3)
  refine RC.skip (RC.back (RC.seq (RC.region rfl ?_)));refine RL.eS (.loadR ([.slice na A.nodes.length nc, .slice fa A.free.length fc]) sh26 rfl hb_3.row rfl) ?_;refine RL.eS (.buildS ze195 pl195 rfl rfl) ?_;refine RL.box rfl rfl rfl (fun b_19 w_19 e_19 z_19 hb_19 s_19 => ?_);have ge_19 := S.le e_19;have n_6__19 := hb_6.ne e_19;have d_hA_b_19 := hA.neNew e_19;have S := S.trans s_19;have G := G.trans s_19.agr;have hA := hA.sub s_19;have hb_6 := hb_6.sub s_19
  have hb_19 : Has w_19 b_19 (wvC na fa nc fc A 0) 195 := hb_19
  have hF := FoG.ft (s := (A, 0)) hb_19 hnc hfc hA (fun e => d_hA_b_19 _ e rfl)
  refine RL.asS rfl ?_;refine RL.nil (RC.back (RC.seq (RC.region rfl ?_)));refine RL.mvS rfl ?_;refine RL.mvS rfl ?_;refine RL.callv rfl rfl (us := []) (cs := cs) hf (hT hyes b_19 _ w_19 S ge_19 hF (fun _ h => h)) rfl rfl ?_;rintro _ w5 ⟨s', r, e, C', rfl, hu, hF1, ag, up, hJ⟩
  have hsz := G.size
  have hD6 : ∀ k, D k → k ≠ b_6 := fun k hk e => by have := hD k hk; omega
  have hnC6 : ¬ (b_6 = b_19 ∨ M b_6) := (fun e => e.elim n_6__19 (fun e => d_hA_b_6 _ e rfl))
  have hC6 : ∀ k, C' k → k ≠ b_6 := fun k hk e => up.not hb_6.lt hnC6 (e ▸ hk)
  have hb_6 := hb_6.step ag (fun e => e.elim n_6__19 (fun e => hD6 _ e rfl))
  have G := agNew2 G ag ge_19
  obtain ⟨_, na', fa', nc', fc', M', hb_19, hnc', hfc', hA', hMb', hMC'⟩ := hF1.now
  have hup : Up M w M' := (fun k hk => by rcases up k (hMC' k hk) with (e | e) | e <;> first | exact .inl e | exact .inr (by omega))
  have dA6 : ∀ k, M' k → k ≠ b_6 := fun k hk => hC6 k (hMC' k hk)
  refine RL.mvS rfl ?_;refine RL.eS (.extract rfl rfl) ?_;refine RL.eS (.extract rfl rfl) ?_;refine RL.asS rfl ?_;refine RL.asS rfl ?_;refine RL.nil (RC.back (RC.seq (RC.seq (RC.region rfl ?_))));refine RL.mvS rfl ?_;refine RL.eS (.bin rfl rfl rfl) ?_;refine RL.nil (RC.back ?_);refine RC.cond_dec rfl (fun h7 => ?_) (fun h7 => ?_)
  ·
   have he := h7
   refine RC.region rfl ?_;refine RL.mvS rfl ?_;refine RL.eS (.nilCheck rfl) ?_;refine RL.eS (.field0 fo195_1 rfl) ?_;refine RL.eS (.load1 sh27 rfl (hb_19.cell rfl)) ?_;refine RL.asS rfl ?_;refine RL.nil (RC.back (RC.seq (RC.seq (RC.region rfl ?_))));refine RL.mvS rfl ?_;refine RL.eS (.bin rfl rfl rfl) ?_;refine RL.nil (RC.back ?_);refine RC.cond_dec rfl (fun h8 => ?_) (fun h8 => ?_)
   ·
    have hz := h8
    refine RC.seq (RC.region rfl ?_);refine RL.eS (.buildS ze26 pl26 rfl rfl) ?_;refine RL.mvS rfl ?_;refine RL.stS sh26 rfl rfl rfl hb_6 (fun w9 z9 hb_6 a9 => ?_)
    have G := agNew G a9 geG_6
    have hb_19 := hb_19.upd a9 n_6__19.symm
    have hA' := hA'.updD a9 dA6
    have hJ := hJ.updD a9 hD6
    have hb_6 : Has w9 b_6 ([.slice none 0 0, .slice none 0 0]) _ := hb_6.now (by kernel_rfl)
    refine RL.asS rfl ?_;refine RL.asS rfl ?_;refine RL.nil (RC.back ?_);refine RC.done (rs := [.cell 6 26, .tmp 7, .tmp 8]) (vs := [_, _, _]) rfl rfl ⟨⟨_, rfl, .inr ⟨[.slice none 0 0, .slice none 0 0], sh26, hb_6.row, rfl⟩⟩, rfl, rfl, trivial⟩ ?_
    exact ⟨G, none, none, 0, 0, ar0, 0, s'.2, fun _ => False, rfl, zu0, by decide, by decide, ⟨fun _ h => h.elim, fun _ _ => ⟨Sl.nil _ _ _, Sl.nil _ _ _, by simp [ar0], by simp [ar0]⟩⟩, fun _ h => h.elim, .inr ⟨hyes, s', r, e, hJ, by rw [if_pos he], fun _ => ⟨rfl, rfl⟩, fun h => absurd h hz⟩⟩
   ·
    have hz := h8
    refine RC.skip (RC.back (RC.seq (RC.region rfl ?_)));refine RL.mvS rfl ?_;refine RL.eS (.nilCheck rfl) ?_;refine RL.eS (.field0 fo195_0 rfl) ?_;refine RL.eS (.loadR (wvA na' fa' nc' fc' s'.1) sh26 rfl (row_pref (xs := wvA na' fa' nc' fc' s'.1) (ys := [.int .i64 s'.2]) hb_19) rfl) ?_;refine RL.mvS rfl ?_;refine RL.stS sh26 rfl rfl rfl hb_6 (fun w10 z10 hb_6 a10 => ?_)
    have G := agNew G a10 geG_6
    have hb_19 := hb_19.upd a10 n_6__19.symm
    have hA' := hA'.updD a10 dA6
    have hJ := hJ.updD a10 hD6
    have hb_6 : Has w10 b_6 (wvA na' fa' nc' fc' s'.1) _ := hb_6.now (by kernel_rfl)
    refine RL.asS rfl ?_;refine RL.asS rfl ?_;refine RL.nil (RC.back ?_);refine RC.done (rs := [.cell 6 26, .tmp 7, .tmp 8]) (vs := [_, _, _]) rfl rfl ⟨⟨_, rfl, .inr ⟨wvA na' fa' nc' fc' s'.1, sh26, hb_6.row, rfl⟩⟩, rfl, rfl, trivial⟩ ?_
    exact ⟨G, na', fa', nc', fc', s'.1, r, 0, M', rfl, hu, hnc', hfc', hA', hup, .inr ⟨hyes, s', r, e, hJ, by rw [if_pos he]; omega, fun h => absurd rfl h, fun _ => ⟨rfl, rfl⟩⟩⟩
  ·
   have he := h7
   refine RC.skip (RC.back (RC.seq (RC.seq (RC.region rfl ?_))));refine RL.mvS rfl ?_;refine RL.eS (.bin rfl rfl rfl) ?_;refine RL.nil (RC.back ?_);refine RC.cond_dec rfl (fun h11 => ?_) (fun h11 => ?_)
   ·
    have hz := h11
    refine RC.seq (RC.region rfl ?_);refine RL.eS (.buildS ze26 pl26 rfl rfl) ?_;refine RL.mvS rfl ?_;refine RL.stS sh26 rfl rfl rfl hb_6 (fun w12 z12 hb_6 a12 => ?_)
    have G := agNew G a12 geG_6
    have hb_19 := hb_19.upd a12 n_6__19.symm
    have hA' := hA'.updD a12 dA6
    have hJ := hJ.updD a12 hD6
    have hb_6 : Has w12 b_6 ([.slice none 0 0, .slice none 0 0]) _ := hb_6.now (by kernel_rfl)
    refine RL.asS rfl ?_;refine RL.asS rfl ?_;refine RL.nil (RC.back ?_);refine RC.done (rs := [.cell 6 26, .tmp 7, .tmp 8]) (vs := [_, _, _]) rfl rfl ⟨⟨_, rfl, .inr ⟨[.slice none 0 0, .slice none 0 0], sh26, hb_6.row, rfl⟩⟩, rfl, rfl, trivial⟩ ?_
    exact ⟨G, none, none, 0, 0, ar0, 0, e, fun _ => False, rfl, zu0, by decide, by decide, ⟨fun _ h => h.elim, fun _ _ => ⟨Sl.nil _ _ _, Sl.nil _ _ _, by simp [ar0], by simp [ar0]⟩⟩, fun _ h => h.elim, .inr ⟨hyes, s', r, e, hJ, by rw [if_neg he], fun _ => ⟨rfl, rfl⟩, fun h => absurd h hz⟩⟩
   ·
    have hz := h11
    refine RC.skip (RC.back (RC.seq (RC.region rfl ?_)));refine RL.mvS rfl ?_;refine RL.eS (.nilCheck rfl) ?_;refine RL.eS (.field0 fo195_0 rfl) ?_;refine RL.eS (.loadR (wvA na' fa' nc' fc' s'.1) sh26 rfl (row_pref (xs := wvA na' fa' nc' fc' s'.1) (ys := [.int .i64 s'.2]) hb_19) rfl) ?_;refine RL.mvS rfl ?_;refine RL.stS sh26 rfl rfl rfl hb_6 (fun w13 z13 hb_6 a13 => ?_)
    have G := agNew G a13 geG_6
    have hA' := hA'.updD a13 dA6
    have hb_6 : Has w13 b_6 (wvA na' fa' nc' fc' s'.1) _ := hb_6.now (by kernel_rfl)
    refine RL.asS rfl ?_;refine RL.asS rfl ?_;refine RL.nil (RC.back ?_);refine RC.done (rs := [.cell 6 26, .tmp 7, .tmp 8]) (vs := [_, _, _]) rfl rfl ⟨⟨_, rfl, .inr ⟨wvA na' fa' nc' fc' s'.1, sh26, hb_6.row, rfl⟩⟩, rfl, rfl, trivial⟩ ?_
    exact absurd he hz
theorem isTab_len {A : Ar} {r : Int} {L : List It} (h : isTab A r) (hL : IsH A 10 r L) : L.length ≤ 200 := by
  obtain ⟨_, M, h1, _, h3⟩ := h
  have e1 := h1.size
  have e2 := hL.size
  omega
theorem tabL (A : Ar) (r : Int) : ∃ L, isTab A r → IsH A 10 r L ∧ Ap L := by
  by_cases h : isTab A r
  · obtain ⟨_, L, h1, h2, _⟩ := id h; exact ⟨L, fun _ => ⟨h1, h2⟩⟩
  · exact ⟨[], fun h' => absurd h' h⟩
theorem shL_9 {A : Ar} {key : Int} : ∀ {k : Nat} {r : Int} {L : List It}, IsH A k r L → shL key L ≤ 9
  | k, r, L, h => by
    have hle := shL_le key L
    rcases row_cases L with rfl | ⟨x, rfl⟩ | h2
    · simp at hle; omega
    · simp at hle; omega
    · cases k with
      | zero =>
        obtain ⟨y, m, _, _, _, q3, _, _, q6, _⟩ := clash_node ((isH_clash h2).1 h) h2
        have := q3.length_eq
        omega
      | succ k =>
        obtain ⟨y, _, _, _, q4⟩ := trie_node h h2
        rw [← shL_of key (9 - k) L]
        exact shL_9 (q4 _ (dig_lt _ _))
def BadH (L : List It) (key : Int) : Prop := key < -1073741824 ∨ key > 1073741824 ∨ (hasK L key = false ∧ (200 ≤ L.length ∨ shL key L = 9))
def PutJH (A : Ar) (L : List It) (key v : Int) (s' : St) (r' e : Int) : Prop := (BadH L key ∧ e = 5) ∨ (¬ BadH L key ∧ e = 0 ∧ Gs (cnt 10 (putM L key v)) (A, 0) s' ∧ (s'.2 = 0 → IsH s'.1 10 r' (putM L key v)))
theorem findH_kind {L : List It} {key : Int} {y : Node} (h : FindH L key y) : (¬ y.kind = 0 ↔ hasK L key = true) ∧ (y.kind = 0 ↔ hasK L key = false) := by
  rcases h with ⟨x, h1, h2, g, rfl⟩ | ⟨h1, rfl⟩
  · have e : hasK L key = true := hasK_iff.2 ⟨x, h1, h2⟩
    rw [e]
    exact ⟨⟨fun _ => rfl, fun _ => (show ¬ (3 : Int) = 0 by decide)⟩, ⟨fun h => absurd h (show ¬ (3 : Int) = 0 by decide), fun h => by cases h⟩⟩
  · rw [hasK_no h1]
    exact ⟨⟨fun h => absurd rfl h, fun h => by cases h⟩, ⟨fun _ => rfl, fun _ => rfl⟩⟩
theorem c_put1T (A : Ar) (r key v : Int) (hr : U64 r) (hkey : I64 key) (hv : I64 v) (L : List It) (hA : AOk A) (hL : IsH A 10 r L) (hap : Ap L) (hl : L.length ≤ 200) (bf b5 b6 b7 : Nat) (C : Nat → Prop) (w : World) (hF : Ft C (Ho bf (A, 0) C) w)
  (m5 : Has w b5 [.int .u64 r] 31) (m6 : Has w b6 [.int .i64 key] 2) (m7 : Has w b7 [.int .i64 v] 2) :
  FC Tryz.prog 135 [.pointer (some ⟨bf, 0, none⟩), .pointer (some ⟨b5, 0, none⟩), .pointer (some ⟨b6, 0, none⟩), .pointer (some ⟨b7, 0, none⟩)] w (fun u w2 => ∃ s' r' e C', u = .tuple #[.int .u64 r', .int .i64 e] ∧ U64 r' ∧ Ft C' (Ho bf s' C') w2 ∧ Agr (· = bf) w w2 ∧ Up C w C' ∧ PutJH A L key v s' r' e) := by
 refine FC.intro Tryz.func135 rfl Tryz.ntmps135 rfl ?_
 have G : Agr (· = bf) w w := Agr.refl _ _
 refine RC.seq (RC.region rfl ?_);refine RL.asS rfl ?_;refine RL.asS rfl ?_;refine RL.nil (RC.back (RC.seq (RC.region rfl ?_)));refine RL.mvS rfl ?_;refine RL.eS (.load1 sh31 rfl (m5.cell rfl)) ?_;refine RL.eS (.load1 sh2 rfl (m6.cell rfl)) ?_;refine RL.call rfl ok133 (c_hfind bf (A, 0) C r key hr L hL w hF) rfl rfl ?_;rintro _ w1 ⟨s2, y, rfl, hyo, hfp⟩;have G := G.trans s2.agr;have hF := hF.sub s2;have m5 := m5.sub s2;have m6 := m6.sub s2;have m7 := m7.sub s2
 have hfk := findH_kind hfp
 refine RL.eS (.fieldV Tryz.underlying140 rfl sh3 rfl rfl) ?_;refine RL.eS (.bin rfl rfl rfl) ?_;refine RL.asS rfl ?_;refine RL.nil (RC.back (RC.seq (RC.seq (RC.region rfl ?_))));refine RL.eS (.load1 sh2 rfl (m6.cell rfl)) ?_;refine RL.eS (.bin rfl rfl rfl) ?_;refine RL.mvS rfl ?_;refine RL.split 16 rfl (fun h3 => ?_) (fun h3 => ?_)
 ·
  have q1 : key < -1073741824 := h3
  refine RL.offs 2 rfl ?_;refine RL.eS (.pick_t rfl rfl) ?_;refine RL.mvS rfl ?_;refine RL.offs 14 rfl ?_;refine RL.eS (.pick_t rfl rfl) ?_;refine RL.nil (RC.back ?_);refine RC.cond_t rfl ?_;refine RC.seq (RC.region rfl ?_);refine RL.asS rfl ?_;refine RL.asS rfl ?_;refine RL.nil (RC.back ?_);refine RC.done (rs := [.tmp 5, .tmp 6]) (vs := [_, _]) rfl rfl ⟨rfl, rfl, trivial⟩ ?_
  exact ⟨(A, 0), 0, 5, C, rfl, zu0, hF, G, Up.refl _ _, .inl ⟨.inl q1, rfl⟩⟩
 ·
  have q1 : ¬ key < -1073741824 := h3
  refine RL.eS (.load1 sh2 rfl (m6.cell rfl)) ?_;refine RL.eS (.bin rfl rfl rfl) ?_;refine RL.eS (.pick_f rfl rfl) ?_;refine RL.mvS rfl ?_;refine RL.split 20 rfl (fun h4 => ?_) (fun h4 => ?_)
  ·
   have q2 : key > 1073741824 := h4
   refine RL.offs 14 rfl ?_;refine RL.eS (.pick_t rfl rfl) ?_;refine RL.nil (RC.back ?_);refine RC.cond_t rfl ?_;refine RC.seq (RC.region rfl ?_);refine RL.asS rfl ?_;refine RL.asS rfl ?_;refine RL.nil (RC.back ?_);refine RC.done (rs := [.tmp 5, .tmp 6]) (vs := [_, _]) rfl rfl ⟨rfl, rfl, trivial⟩ ?_
   exact ⟨(A, 0), 0, 5, C, rfl, zu0, hF, G, Up.refl _ _, .inl ⟨.inr (.inl q2), rfl⟩⟩
  ·
   have q2 : ¬ key > 1073741824 := h4
   refine RL.mvS rfl ?_;refine RL.eS (.not_dec rfl) ?_;refine RL.mvS rfl ?_;refine RL.split 23 rfl (fun h5 => ?_) (fun h5 => ?_)
   ·
    have q3 : hasK L key = false := hfk.2.1 (by have := h5; omega)
    refine RL.mvS rfl ?_;refine RL.eS (.load1 sh31 rfl (m5.cell rfl)) ?_;refine RL.call rfl ok136 (c_hsize bf (A, 0) C r hr w1 hF) rfl rfl ?_;rintro _ w6 ⟨rfl, s7⟩;have G := G.trans s7.agr;have hF := hF.sub s7;have m5 := m5.sub s7;have m6 := m6.sub s7;have m7 := m7.sub s7;refine RL.eS (.as (v' := .bool (decide (200 ≤ (L.length : Int)))) (.bin rfl rfl rfl) (by rw [hL.size])) ?_;refine RL.mvS rfl ?_;refine RL.split 28 rfl (fun h8 => ?_) (fun h8 => ?_)
    ·
     have q4 := h8
     refine RL.offs 4 rfl ?_;refine RL.eS (.pick_t rfl rfl) ?_;refine RL.eS (.pick_t rfl rfl) ?_;refine RL.eS (.pick_f rfl rfl) ?_;refine RL.nil (RC.back ?_);refine RC.cond_t rfl ?_;refine RC.seq (RC.region rfl ?_);refine RL.asS rfl ?_;refine RL.asS rfl ?_;refine RL.nil (RC.back ?_);refine RC.done (rs := [.tmp 5, .tmp 6]) (vs := [_, _]) rfl rfl ⟨rfl, rfl, trivial⟩ ?_
     exact ⟨(A, 0), 0, 5, C, rfl, zu0, hF, G, Up.refl _ _, .inl ⟨.inr (.inr ⟨q3, .inl (by omega)⟩), rfl⟩⟩
    ·
     have q4 := h8
     refine RL.mvS rfl ?_;refine RL.eS (.load1 sh31 rfl (m5.cell rfl)) ?_;refine RL.eS (.load1 sh2 rfl (m6.cell rfl)) ?_;refine RL.call rfl ok137 (c_hcrowd bf (A, 0) C r key hr L hL w6 hF) rfl rfl ?_;rintro _ w9 ⟨rfl, s10⟩;have G := G.trans s10.agr;have hF := hF.sub s10;have m5 := m5.sub s10;have m6 := m6.sub s10;have m7 := m7.sub s10;refine RL.eS (.pick_f rfl rfl) ?_;refine RL.eS (.pick_t rfl rfl) ?_;refine RL.eS (.pick_f rfl rfl) ?_;refine RL.nil (RC.back ?_);refine RC.cond rfl (fun h11 => ?_) (fun h11 => ?_)
     ·
      have q5 : shL key L = 9 := of_decide_eq_true h11
      refine RC.seq (RC.region rfl ?_);refine RL.asS rfl ?_;refine RL.asS rfl ?_;refine RL.nil (RC.back ?_);refine RC.done (rs := [.tmp 5, .tmp 6]) (vs := [_, _]) rfl rfl ⟨rfl, rfl, trivial⟩ ?_
      exact ⟨(A, 0), 0, 5, C, rfl, zu0, hF, G, Up.refl _ _, .inl ⟨.inr (.inr ⟨q3, .inr q5⟩), rfl⟩⟩
     ·
      have q5 : ¬ shL key L = 9 := of_decide_eq_false h11
      have hroom : Room key L := (fun _ => by have := shL_9 (key := key) hL; unfold shL at this q5; omega)
      have hnb : ¬ BadH L key := (fun h => h.elim q1 (fun h => h.elim q2 (fun h => h.2.elim (fun h => by omega) q5)))
      refine RC.skip (RC.back (RC.seq (RC.region rfl ?_)));refine RL.mvS rfl ?_;refine RL.eS (.load1 sh31 rfl (m5.cell rfl)) ?_;refine RL.eS (.load1 sh2 rfl (m6.cell rfl)) ?_;refine RL.eS (.load1 sh2 rfl (m7.cell rfl)) ?_;refine RL.call rfl ok138 (c_hput bf key v hkey hv A 10 0 r L (A, 0) C w9 (Nat.le_refl _) rfl hL hap (fun z _ => by rw [Nat.pow_zero, Nat.mod_one, Nat.mod_one]) hroom (by omega) (Ext.refl _) hA hr hF) rfl rfl ?_;rintro _ w12 ⟨s1, C1, hg, ⟨r1, rfl, hu1, hi⟩, hF1, ag, up⟩
      have up := up.le G.size
      have G := G.trans ag;refine RL.asS rfl ?_;refine RL.asS rfl ?_;refine RL.nil (RC.back ?_);refine RC.done (rs := [.tmp 5, .tmp 6]) (vs := [_, _]) rfl rfl ⟨rfl, rfl, trivial⟩ ?_
      exact ⟨s1, r1, 0, C1, rfl, hu1, hF1, G, up, .inr ⟨hnb, rfl, hg.1, hi⟩⟩
   ·
    have q3 : hasK L key = true := hfk.1.1 (by have := h5; omega)
    have hroom : Room key L := (fun e => by rw [q3] at e; cases e)
    have hnb : ¬ BadH L key := (fun h => h.elim q1 (fun h => h.elim q2 (fun h => by rw [q3] at h; cases h.1)))
    refine RL.offs 10 rfl ?_;refine RL.eS (.pick_f rfl rfl) ?_;refine RL.eS (.pick_f rfl rfl) ?_;refine RL.nil (RC.back ?_);refine RC.cond_f rfl ?_;refine RC.skip (RC.back (RC.seq (RC.region rfl ?_)));refine RL.mvS rfl ?_;refine RL.eS (.load1 sh31 rfl (m5.cell rfl)) ?_;refine RL.eS (.load1 sh2 rfl (m6.cell rfl)) ?_;refine RL.eS (.load1 sh2 rfl (m7.cell rfl)) ?_;refine RL.call rfl ok138 (c_hput bf key v hkey hv A 10 0 r L (A, 0) C w1 (Nat.le_refl _) rfl hL hap (fun z _ => by rw [Nat.pow_zero, Nat.mod_one, Nat.mod_one]) hroom (by omega) (Ext.refl _) hA hr hF) rfl rfl ?_;rintro _ w14 ⟨s1, C1, hg, ⟨r1, rfl, hu1, hi⟩, hF1, ag, up⟩
    have up := up.le G.size
    have G := G.trans ag;refine RL.asS rfl ?_;refine RL.asS rfl ?_;refine RL.nil (RC.back ?_);refine RC.done (rs := [.tmp 5, .tmp 6]) (vs := [_, _]) rfl rfl ⟨rfl, rfl, trivial⟩ ?_
    exact ⟨s1, r1, 0, C1, rfl, hu1, hF1, G, up, .inr ⟨hnb, rfl, hg.1, hi⟩⟩
def PutPH (A : Ar) (r key v : Int) (B : Ar) (r' e : Int) : Prop :=
  (¬ isTab A r → e = 1) ∧ (¬ e = 0 → B = ar0 ∧ r' = 0) ∧ ∀ L, isTab A r → IsH A 10 r L → Ap L → (BadH L key ∧ e = 5) ∨ (¬ BadH L key ∧ e = 2 ∧ A.free.length < cnt 10 (putM L key v)) ∨ (¬ BadH L key ∧ e = 0 ∧ Ext A B ∧ AOk B ∧ A.free.length ≤ B.free.length + cnt 10 (putM L key v) ∧ IsH B 10 r' (putM L key v))
theorem isH_perm {A : Ar} : ∀ {k : Nat} {r : Int} {L M : List It}, IsH A k r L → IsH A k r M → L.Perm M
  | k, r, L, M, h, h' => by
    have e1 := h.size
    have e2 := h'.size
    rcases row_cases L with rfl | ⟨x, rfl⟩ | hl
    · have : M = [] := List.eq_nil_of_length_eq_zero (by simp at e1; omega)
      rw [this]
    · obtain ⟨z, rfl⟩ := List.length_eq_one_iff.1 (show M.length = 1 by simp at e1; omega)
      obtain ⟨g, q1⟩ := isH_one.1 h
      obtain ⟨g', q2⟩ := isH_one.1 h'
      rw [q1] at q2
      simp only [hN, Option.some.injEq, Node.mk.injEq] at q2
      have : x = z := by cases x; cases z; simp_all
      rw [this]
    · have hl' : 2 ≤ M.length := by omega
      cases k with
      | zero =>
        obtain ⟨y, m, q1, _, _, q3, _, _, q5, q6, q7⟩ := clash_node ((isH_clash hl).1 h) hl
        obtain ⟨y', m', q1', _, _, q3', _, _, q5', q6', q7'⟩ := clash_node ((isH_clash hl').1 h') hl'
        rw [q1] at q1'
        cases q1'
        have hlen : m.length = m'.length := by rw [q3.length_eq, q3'.length_eq]; omega
        have : m = m' := by
          apply List.ext_getElem?
          intro i
          by_cases hi : i < m.length
          · obtain ⟨x, hx⟩ := getSome (l := m) hi
            obtain ⟨z, hz⟩ := getSome (l := m') (i := i) (by omega)
            obtain ⟨g, p1⟩ := q6 i x hx
            obtain ⟨g', p2⟩ := q6' i z hz
            rw [p1] at p2
            simp only [hN, Option.some.injEq, Node.mk.injEq] at p2
            have : x = z := by cases x; cases z; simp_all
            rw [hx, hz, this]
          · rw [List.getElem?_eq_none (by omega), List.getElem?_eq_none (by omega)]
        exact q3.symm.trans (this ▸ q3')
      | succ k =>
        obtain ⟨y, q1, _, _, q4⟩ := trie_node h hl
        obtain ⟨y', q1', _, _, q4'⟩ := trie_node h' hl'
        rw [q1] at q1'
        cases q1'
        have e : ∀ i, i < 4 → (ofL (9 - k) i L).Perm (ofL (9 - k) i M) := fun i hi => isH_perm (q4 i hi) (q4' i hi)
        exact (part_perm (9 - k) L).symm.trans (((e 0 (by omega)).append ((e 1 (by omega)).append ((e 2 (by omega)).append (e 3 (by omega))))).trans (part_perm (9 - k) M))
theorem shL_perm {key : Int} {L M : List It} (p : L.Perm M) : shL key L = shL key M := (p.filter _).length_eq
theorem BadH.perm {key : Int} {L M : List It} (p : L.Perm M) (h : BadH L key) : BadH M key := by
  unfold BadH at h ⊢
  rw [← hasK_perm p, ← p.length_eq, ← shL_perm p]; exact h
theorem put_formH {A B : Ar} {r key v r' e : Int} {w w' : World} {L : List It} (hm : isTab A r → IsH A 10 r L ∧ Ap L) (h : CallH A r (fun s' r' e _ => PutJH A L key v s' r' e) (fun _ => False) w w' B r' e) : PutPH A r key v B r' e := by
  rcases h with ⟨h1, h2, h3, h4, _⟩ | ⟨h1, s', r0, e0, hJ, he, h3, h4⟩
  · refine ⟨fun _ => h2, fun _ => ⟨h3, h4⟩, fun L' h => ?_⟩
    rw [isTabB_yes h] at h1; cases h1
  · have hmap := (isTabB_iff A r).1 h1
    refine ⟨fun h => absurd hmap h, h3, fun L' _ hL' _ => ?_⟩
    have p := isH_perm (hm hmap).1 hL'
    have pm := putM_perm (key := key) (v := v) p
    rcases hJ.now with ⟨hb, h5⟩ | ⟨hb, h5, hg, hi⟩
    · exact .inl ⟨hb.perm p, by rw [he, h5]; rfl⟩
    · have hb' : ¬ BadH L' key := fun h => hb (h.perm p.symm)
      rw [h5, if_pos rfl] at he
      rw [← cnt_perm pm]
      by_cases h0 : s'.2 = 0
      · obtain ⟨rfl, rfl⟩ := h4 (by rw [he, h0])
        exact .inr (.inr ⟨hb', by rw [he, h0], hg.ext, hg.ok, hg.free, (hi h0).perm pm⟩)
      · have := hg.full rfl h0
        exact .inr (.inl ⟨hb', by rw [he, this.1], this.2⟩)
theorem c_hPut (A : Ar) (na fa : Option Addr) (nc fc : Nat) (hnc : A.nodes.length ≤ nc) (hfc : A.free.length ≤ fc) (r key v : Int) (hr : U64 r) (hkey : I64 key) (hv : I64 v) (M : Nat → Prop) (w : World) (hA : Ft M (fun u => ArR u na fa A) w) :
  FC Tryz.prog 80 [arV na fa nc fc A, .int .u64 r, .int .i64 key, .int .i64 v] w (fun u w' => Sub w w' ∧ ArH M w w' (PutPH A r key v) u) := by
 obtain ⟨L, hm⟩ := tabL A r
 refine FC.intro Tryz.func80 rfl Tryz.ntmps80 rfl ?_
 have S := Sub.refl w
 refine RC.seq (RC.region rfl ?_);refine RL.box rfl rfl rfl (fun b_4 w_4 e_4 z_4 hb_4 s_4 => ?_);have S := S.trans s_4;have hA := hA.sub s_4
 have hb_4 : Has w_4 b_4 ([.slice na A.nodes.length nc, .slice fa A.free.length fc]) _ := hb_4
 refine RL.box rfl rfl rfl (fun b_5 w_5 e_5 z_5 hb_5 s_5 => ?_);have S := S.trans s_5;have hA := hA.sub s_5;have hb_4 := hb_4.sub s_5;refine RL.box rfl rfl rfl (fun b_6 w_6 e_6 z_6 hb_6 s_6 => ?_);have S := S.trans s_6;have hA := hA.sub s_6;have hb_4 := hb_4.sub s_6;have hb_5 := hb_5.sub s_6;refine RL.box rfl rfl rfl (fun b_7 w_7 e_7 z_7 hb_7 s_7 => ?_);have S := S.trans s_7;have hA := hA.sub s_7;have hb_4 := hb_4.sub s_7;have hb_5 := hb_5.sub s_7;have hb_6 := hb_6.sub s_7;refine RL.alloc ze26 rfl rfl (fun b_8 w_8 e_8 z_8 hb_8 s_8 => ?_);have ge_8 := S.le e_8;have d_hA_b_8 := hA.neNew e_8;have S := S.trans s_8;have hA := hA.sub s_8;have hb_4 := hb_4.sub s_8;have hb_5 := hb_5.sub s_8;have hb_6 := hb_6.sub s_8;have hb_7 := hb_7.sub s_8;refine RL.asS rfl ?_;refine RL.asS rfl ?_;refine RL.nil (RC.back (RC.seq (RC.region rfl ?_)));refine RL.eS (.loadR ([.slice na A.nodes.length nc, .slice fa A.free.length fc]) sh26 rfl hb_4.row rfl) ?_;refine RL.eS (.load1 sh31 rfl (hb_5.cell rfl)) ?_;refine RL.eS (.func (xs := []) (ys := [_, _, _]) rfl rfl) ?_;refine RL.call rfl ok134 (c_hcall 135 ok135 [.pointer (some ⟨b_5, 0, none⟩), .pointer (some ⟨b_6, 0, none⟩), .pointer (some ⟨b_7, 0, none⟩)] A na fa nc fc hnc hfc r hr (fun _ => False) M (fun s' r' e _ => PutJH A L key v s' r' e) w_8 hA (fun _ h => h.elim) (fun hyes bf C w1 s1 hbf hF _ => FC.mono (c_put1T A r key v hr hkey hv L ((isTabB_iff A r).1 hyes).1 (hm ((isTabB_iff A r).1 hyes)).1 (hm ((isTabB_iff A r).1 hyes)).2 (isTab_len ((isTabB_iff A r).1 hyes) (hm ((isTabB_iff A r).1 hyes)).1) bf b_5 b_6 b_7 C w1 hF (hb_5.sub s1) (hb_6.sub s1) (hb_7.sub s1)) (fun u w2 ⟨s', r', e, C', h1, h2, h3, h4, h5, h6⟩ => ⟨s', r', e, C', h1, h2, h3, h4.mono fun k _ e => .inl e, h5, ⟨fun _ h => h.elim, fun _ _ => h6⟩⟩))) rfl rfl ?_;rintro _ w1 ⟨ag, na', fa', nc', fc', B, r', e, M', rfl, hu, hnc', hfc', hA', hup, hcp⟩
 have dB8 : ∀ k, M' k → k ≠ b_8 := (fun k hk e => hup.not hb_8.lt (fun e' => d_hA_b_8 _ e' rfl) (e ▸ hk))
 have hup := hup.le S.size
 have S := S.trans ag.sub;have hb_8 := hb_8.sub ag.sub
 have hpp := put_formH hm hcp
 refine RL.eS (.extract rfl rfl) ?_;refine RL.eS (.extract rfl rfl) ?_;refine RL.eS (.extract rfl rfl) ?_;refine RL.stS sh26 rfl rfl rfl hb_8 (fun w3 z3 hb_8 a3 => ?_);have S := S.upd a3 ge_8
 have hA' := hA'.updD a3 dB8
 have hb_8 : Has w3 b_8 ([.slice na' B.nodes.length nc', .slice fa' B.free.length fc']) _ := hb_8.now (by kernel_rfl)
 refine RL.asS rfl ?_;refine RL.asS rfl ?_;refine RL.nil (RC.back ?_);refine RC.done (rs := [.cell 8 26, .tmp 9, .tmp 10]) (vs := [_, _, _]) rfl rfl ⟨⟨_, rfl, .inr ⟨[.slice na' B.nodes.length nc', .slice fa' B.free.length fc'], sh26, hb_8.row, rfl⟩⟩, rfl, rfl, trivial⟩ ?_
 exact ⟨S, na', fa', nc', fc', B, r', e, M', rfl, hu, hnc', hfc', hA', hup, hpp⟩
def DelJH (A : Ar) (L : List It) (key : Int) (s' : St) (r' e : Int) : Prop := (hasK L key = false ∧ e = 3) ∨ (hasK L key = true ∧ e = 0 ∧ Gs (cnt 10 (delL L key)) (A, 0) s' ∧ (s'.2 = 0 → IsH s'.1 10 r' (delL L key)))
theorem c_del1T (A : Ar) (r key : Int) (hr : U64 r) (hkey : I64 key) (L : List It) (hA : AOk A) (hL : IsH A 10 r L) (hap : Ap L) (hl : L.length ≤ 200) (bf b4 b5 : Nat) (C : Nat → Prop) (w : World) (hF : Ft C (Ho bf (A, 0) C) w)
  (m4 : Has w b4 [.int .u64 r] 31) (m5 : Has w b5 [.int .i64 key] 2) :
  FC Tryz.prog 139 [.pointer (some ⟨bf, 0, none⟩), .pointer (some ⟨b4, 0, none⟩), .pointer (some ⟨b5, 0, none⟩)] w (fun u w2 => ∃ s' r' e C', u = .tuple #[.int .u64 r', .int .i64 e] ∧ U64 r' ∧ Ft C' (Ho bf s' C') w2 ∧ Agr (· = bf) w w2 ∧ Up C w C' ∧ DelJH A L key s' r' e) := by
 refine FC.intro Tryz.func139 rfl Tryz.ntmps139 rfl ?_
 have G : Agr (· = bf) w w := Agr.refl _ _
 refine RC.seq (RC.region rfl ?_);refine RL.asS rfl ?_;refine RL.asS rfl ?_;refine RL.nil (RC.back (RC.seq (RC.seq (RC.region rfl ?_))));refine RL.mvS rfl ?_;refine RL.eS (.load1 sh31 rfl (m4.cell rfl)) ?_;refine RL.eS (.load1 sh2 rfl (m5.cell rfl)) ?_;refine RL.call rfl ok133 (c_hfind bf (A, 0) C r key hr L hL w hF) rfl rfl ?_;rintro _ w1 ⟨s2, y, rfl, hyo, hfp⟩;have G := G.trans s2.agr;have hF := hF.sub s2;have m4 := m4.sub s2;have m5 := m5.sub s2
 have hfk := findH_kind hfp
 refine RL.eS (.fieldV Tryz.underlying140 rfl sh3 rfl rfl) ?_;refine RL.eS (.bin rfl rfl rfl) ?_;refine RL.nil (RC.back ?_);refine RC.cond_dec rfl (fun h3 => ?_) (fun h3 => ?_)
 ·
  have q3 : hasK L key = false := hfk.2.1 h3
  refine RC.seq (RC.region rfl ?_);refine RL.asS rfl ?_;refine RL.asS rfl ?_;refine RL.nil (RC.back ?_);refine RC.done (rs := [.tmp 4, .tmp 5]) (vs := [_, _]) rfl rfl ⟨rfl, rfl, trivial⟩ ?_
  exact ⟨(A, 0), 0, 3, C, rfl, zu0, hF, G, Up.refl _ _, .inl ⟨q3, rfl⟩⟩
 ·
  have q3 : hasK L key = true := hfk.1.1 h3
  refine RC.skip (RC.back (RC.seq (RC.region rfl ?_)));refine RL.mvS rfl ?_;refine RL.eS (.load1 sh31 rfl (m4.cell rfl)) ?_;refine RL.eS (.load1 sh2 rfl (m5.cell rfl)) ?_;refine RL.call rfl ok140 (c_hdel bf key hkey A 10 0 r L (A, 0) C w1 (Nat.le_refl _) rfl hL hap q3 (by omega) (Ext.refl _) hA hr hF) rfl rfl ?_;rintro _ w4 ⟨s1, C1, hg, ⟨r1, rfl, hu1, hi⟩, hF1, ag, up⟩
  have up := up.le G.size
  have G := G.trans ag;refine RL.asS rfl ?_;refine RL.asS rfl ?_;refine RL.nil (RC.back ?_);refine RC.done (rs := [.tmp 4, .tmp 5]) (vs := [_, _]) rfl rfl ⟨rfl, rfl, trivial⟩ ?_
  exact ⟨s1, r1, 0, C1, rfl, hu1, hF1, G, up, .inr ⟨q3, rfl, hg.1, hi⟩⟩
def DelPH (A : Ar) (r key : Int) (B : Ar) (r' e : Int) : Prop :=
  (¬ isTab A r → e = 1) ∧ (¬ e = 0 → B = ar0 ∧ r' = 0) ∧ ∀ L, isTab A r → IsH A 10 r L → Ap L → (hasK L key = false ∧ e = 3) ∨ (hasK L key = true ∧ e = 2 ∧ A.free.length < cnt 10 (delL L key)) ∨ (hasK L key = true ∧ e = 0 ∧ Ext A B ∧ AOk B ∧ A.free.length ≤ B.free.length + cnt 10 (delL L key) ∧ IsH B 10 r' (delL L key))
theorem del_formH {A B : Ar} {r key r' e : Int} {w w' : World} {L : List It} (hm : isTab A r → IsH A 10 r L ∧ Ap L) (h : CallH A r (fun s' r' e _ => DelJH A L key s' r' e) (fun _ => False) w w' B r' e) : DelPH A r key B r' e := by
  rcases h with ⟨h1, h2, h3, h4, _⟩ | ⟨h1, s', r0, e0, hJ, he, h3, h4⟩
  · refine ⟨fun _ => h2, fun _ => ⟨h3, h4⟩, fun L' h => ?_⟩
    rw [isTabB_yes h] at h1; cases h1
  · have hmap := (isTabB_iff A r).1 h1
    refine ⟨fun h => absurd hmap h, h3, fun L' _ hL' _ => ?_⟩
    have p := isH_perm (hm hmap).1 hL'
    have pd := delL_perm (key := key) p
    rw [← hasK_perm p, ← cnt_perm pd]
    rcases hJ.now with ⟨hb, h5⟩ | ⟨hb, h5, hg, hi⟩
    · exact .inl ⟨hb, by rw [he, h5]; rfl⟩
    · rw [h5, if_pos rfl] at he
      by_cases h0 : s'.2 = 0
      · obtain ⟨rfl, rfl⟩ := h4 (by rw [he, h0])
        exact .inr (.inr ⟨hb, by rw [he, h0], hg.ext, hg.ok, hg.free, (hi h0).perm pd⟩)
      · have := hg.full rfl h0
        exact .inr (.inl ⟨hb, by rw [he, this.1], this.2⟩)
theorem c_hDel (A : Ar) (na fa : Option Addr) (nc fc : Nat) (hnc : A.nodes.length ≤ nc) (hfc : A.free.length ≤ fc) (r key : Int) (hr : U64 r) (hkey : I64 key) (M : Nat → Prop) (w : World) (hA : Ft M (fun u => ArR u na fa A) w) :
  FC Tryz.prog 81 [arV na fa nc fc A, .int .u64 r, .int .i64 key] w (fun u w' => Sub w w' ∧ ArH M w w' (DelPH A r key) u) := by
 obtain ⟨L, hm⟩ := tabL A r
 refine FC.intro Tryz.func81 rfl Tryz.ntmps81 rfl ?_
 have S := Sub.refl w
 refine RC.seq (RC.region rfl ?_);refine RL.box rfl rfl rfl (fun b_3 w_3 e_3 z_3 hb_3 s_3 => ?_);have S := S.trans s_3;have hA := hA.sub s_3
 have hb_3 : Has w_3 b_3 ([.slice na A.nodes.length nc, .slice fa A.free.length fc]) _ := hb_3
 refine RL.box rfl rfl rfl (fun b_4 w_4 e_4 z_4 hb_4 s_4 => ?_);have S := S.trans s_4;have hA := hA.sub s_4;have hb_3 := hb_3.sub s_4;refine RL.box rfl rfl rfl (fun b_5 w_5 e_5 z_5 hb_5 s_5 => ?_);have S := S.trans s_5;have hA := hA.sub s_5;have hb_3 := hb_3.sub s_5;have hb_4 := hb_4.sub s_5;refine RL.alloc ze26 rfl rfl (fun b_6 w_6 e_6 z_6 hb_6 s_6 => ?_);have ge_6 := S.le e_6;have d_hA_b_6 := hA.neNew e_6;have S := S.trans s_6;have hA := hA.sub s_6;have hb_3 := hb_3.sub s_6;have hb_4 := hb_4.sub s_6;have hb_5 := hb_5.sub s_6;refine RL.asS rfl ?_;refine RL.asS rfl ?_;refine RL.nil (RC.back (RC.seq (RC.region rfl ?_)));refine RL.eS (.loadR ([.slice na A.nodes.length nc, .slice fa A.free.length fc]) sh26 rfl hb_3.row rfl) ?_;refine RL.eS (.load1 sh31 rfl (hb_4.cell rfl)) ?_;refine RL.eS (.func (xs := []) (ys := [_, _]) rfl rfl) ?_;refine RL.call rfl ok134 (c_hcall 139 ok139 [.pointer (some ⟨b_4, 0, none⟩), .pointer (some ⟨b_5, 0, none⟩)] A na fa nc fc hnc hfc r hr (fun _ => False) M (fun s' r' e _ => DelJH A L key s' r' e) w_6 hA (fun _ h => h.elim) (fun hyes bf C w1 s1 hbf hF _ => FC.mono (c_del1T A r key hr hkey L ((isTabB_iff A r).1 hyes).1 (hm ((isTabB_iff A r).1 hyes)).1 (hm ((isTabB_iff A r).1 hyes)).2 (isTab_len ((isTabB_iff A r).1 hyes) (hm ((isTabB_iff A r).1 hyes)).1) bf b_4 b_5 C w1 hF (hb_4.sub s1) (hb_5.sub s1)) (fun u w2 ⟨s', r', e, C', h1, h2, h3, h4, h5, h6⟩ => ⟨s', r', e, C', h1, h2, h3, h4.mono fun k _ e => .inl e, h5, ⟨fun _ h => h.elim, fun _ _ => h6⟩⟩))) rfl rfl ?_;rintro _ w1 ⟨ag, na', fa', nc', fc', B, r', e, M', rfl, hu, hnc', hfc', hA', hup, hcp⟩
 have dB6 : ∀ k, M' k → k ≠ b_6 := (fun k hk e => hup.not hb_6.lt (fun e' => d_hA_b_6 _ e' rfl) (e ▸ hk))
 have hup := hup.le S.size
 have S := S.trans ag.sub;have hb_6 := hb_6.sub ag.sub
 have hpp := del_formH hm hcp
 refine RL.eS (.extract rfl rfl) ?_;refine RL.eS (.extract rfl rfl) ?_;refine RL.eS (.extract rfl rfl) ?_;refine RL.stS sh26 rfl rfl rfl hb_6 (fun w3 z3 hb_6 a3 => ?_);have S := S.upd a3 ge_6
 have hA' := hA'.updD a3 dB6
 have hb_6 : Has w3 b_6 ([.slice na' B.nodes.length nc', .slice fa' B.free.length fc']) _ := hb_6.now (by kernel_rfl)
 refine RL.asS rfl ?_;refine RL.asS rfl ?_;refine RL.nil (RC.back ?_);refine RC.done (rs := [.cell 6 26, .tmp 7, .tmp 8]) (vs := [_, _, _]) rfl rfl ⟨⟨_, rfl, .inr ⟨[.slice na' B.nodes.length nc', .slice fa' B.free.length fc'], sh26, hb_6.row, rfl⟩⟩, rfl, rfl, trivial⟩ ?_
 exact ⟨S, na', fa', nc', fc', B, r', e, M', rfl, hu, hnc', hfc', hA', hup, hpp⟩
def GetPH (A : Ar) (r key x e : Int) : Prop := (¬ isTab A r → x = 0 ∧ e = 1) ∧ ∀ L, isTab A r → IsH A 10 r L → Ap L → (∃ z ∈ L, z.k = key ∧ x = z.v ∧ e = 0) ∨ (hasK L key = false ∧ x = 0 ∧ e = 3)
theorem c_hGet (A : Ar) (na fa : Option Addr) (nc fc : Nat) (hnc : A.nodes.length ≤ nc) (hfc : A.free.length ≤ fc) (r key : Int) (hr : U64 r) (w : World) (hA : ArR w na fa A) :
  FC Tryz.prog 79 [arV na fa nc fc A, .int .u64 r, .int .i64 key] w (fun u w' => Sub w w' ∧ ∃ x e, u = .tuple #[.int .i64 x, .int .i64 e] ∧ GetPH A r key x e) := by
 have hN := hA.nodes
 have hFr := hA.free
 have hG : Ft (· < w.heap.size) (fun u => ArR u na fa A) w := Ft.of_sub fun u s => hA.sub s
 obtain ⟨L, hm⟩ := tabL A r
 refine FC.intro Tryz.func79 rfl Tryz.ntmps79 rfl ?_
 have S := Sub.refl w
 refine RC.seq (RC.region rfl ?_);refine RL.box rfl rfl rfl (fun b_3 w_3 e_3 z_3 hb_3 s_3 => ?_);have S := S.trans s_3
 have hb_3 : Has w_3 b_3 ([.slice na A.nodes.length nc, .slice fa A.free.length fc]) _ := hb_3
 refine RL.asS rfl ?_;refine RL.asS rfl ?_;refine RL.nil (RC.back (RC.seq (RC.seq (RC.region rfl ?_))));refine RL.eS (.loadR ([.slice na A.nodes.length nc, .slice fa A.free.length fc]) sh26 rfl hb_3.row rfl) ?_;refine RL.mvS rfl ?_;refine RL.call rfl ok51 (c_hRight A na fa nc fc hnc hfc r hr w_3 (hA.sub S)) rfl rfl ?_;rintro _ w1 ⟨rfl, s2⟩;have S := S.trans s2;have hb_3 := hb_3.sub s2;refine RL.eS (.not rfl) ?_;refine RL.nil (RC.back ?_);refine RC.cond rfl (fun h3 => ?_) (fun h3 => ?_)
 ·
  have hno : ¬ isTab A r := (fun h => by have h2 := h3; rw [isTabB_yes h] at h2; cases h2)
  refine RC.seq (RC.region rfl ?_);refine RL.asS rfl ?_;refine RL.asS rfl ?_;refine RL.nil (RC.back ?_);refine RC.done (rs := [.tmp 6, .tmp 7]) (vs := [_, _]) rfl rfl ⟨rfl, rfl, trivial⟩ ?_
  exact ⟨S, 0, 1, rfl, fun _ => ⟨rfl, rfl⟩, fun L' h => absurd h hno⟩
 ·
  have hyes : isTab A r := (isTabB_iff A r).1 (by simpa using h3)
  obtain ⟨hL, hap⟩ := hm hyes
  refine RC.skip (RC.back (RC.seq (RC.region rfl ?_)));refine RL.eS (.loadR ([.slice na A.nodes.length nc, .slice fa A.free.length fc]) sh26 rfl hb_3.row rfl) ?_;refine RL.eS (.buildS ze195 pl195 rfl rfl) ?_;refine RL.box rfl rfl rfl (fun b_16 w_16 e_16 z_16 hb_16 s_16 => ?_);have ge_16 := S.le e_16;have S := S.trans s_16
  have hb_16 : Has w_16 b_16 (wvC na fa nc fc A 0) 195 := hb_16
  have hG1 := hG.sub S
  have hF := FoG.ft (s := (A, 0)) hb_16 hnc hfc hG1 (fun e => by have := ge_16; omega)
  refine RL.asS rfl ?_;refine RL.nil (RC.back (RC.seq (RC.region rfl ?_)));refine RL.mvS rfl ?_;refine RL.mvS rfl ?_;refine RL.mvS rfl ?_;refine RL.call rfl ok133 (c_hfind b_16 (A, 0) _ r key hr L hL w_16 hF) rfl rfl ?_;rintro _ w4 ⟨s5, y, rfl, hyo, hfp⟩;have S := S.trans s5
  have hfk := findH_kind hfp
  refine RL.alloc ze140 rfl rfl (fun b_9 w_9 e_9 z_9 hb_9 s_9 => ?_);have ge_9 := S.le e_9;have S := S.trans s_9;refine RL.stS sh140 rfl rfl rfl hb_9 (fun w6 z6 hb_9 a6 => ?_);have S := S.upd a6 ge_9
  have hb_9 : Has w6 b_9 (y.cells) _ := hb_9.now (by kernel_rfl)
  refine RL.nil (RC.back (RC.seq (RC.seq (RC.region rfl ?_))));refine RL.eS (.field0 fo140_0 rfl) ?_;refine RL.eS (.load1 sh3 rfl (hb_9.cell rfl)) ?_;refine RL.eS (.bin rfl rfl rfl) ?_;refine RL.nil (RC.back ?_);refine RC.cond_dec rfl (fun h7 => ?_) (fun h7 => ?_)
  ·
   have q := h7
   have q3 : hasK L key = false := hfk.2.1 q
   refine RC.seq (RC.region rfl ?_);refine RL.asS rfl ?_;refine RL.asS rfl ?_;refine RL.nil (RC.back ?_);refine RC.done (rs := [.tmp 6, .tmp 7]) (vs := [_, _]) rfl rfl ⟨rfl, rfl, trivial⟩ ?_
   exact ⟨S, 0, 3, rfl, fun h => absurd hyes h, fun L' _ hL' _ => .inr ⟨by rw [← hasK_perm (isH_perm hL hL')]; exact q3, rfl, rfl⟩⟩
  ·
   have q := h7
   have q3 : hasK L key = true := hfk.1.1 q
   refine RC.skip (RC.back (RC.seq (RC.region rfl ?_)));refine RL.eS (.field0 fo140_3 rfl) ?_;refine RL.eS (.load1 sh2 rfl (hb_9.cell rfl)) ?_;refine RL.asS rfl ?_;refine RL.asS rfl ?_;refine RL.nil (RC.back ?_);refine RC.done (rs := [.tmp 6, .tmp 7]) (vs := [_, _]) rfl rfl ⟨rfl, rfl, trivial⟩ ?_
   exact ⟨S, y.v, 0, rfl, fun h => absurd hyes h, fun L' _ hL' _ => .inl (by rcases hfp with ⟨z, h1, h2, g, rfl⟩ | ⟨h1, rfl⟩; exact ⟨z, (isH_perm hL hL').mem_iff.1 h1, h2, rfl, rfl⟩; exact absurd rfl q)⟩
def TabsP (A : Ar) (r : Int) (L : List It) (o : OpT) (x : RsT) (B : Ar) (r' e : Int) : Prop :=
  ∃ v n, GetPH A r o.a v n ∧ ((o.kind = 2 ∧ PutPH A r o.a o.b B r' e ∧ x = if n = 0 then tellR e 1 v else tellR e 0 0) ∨ (o.kind = 3 ∧ DelPH A r o.a B r' e ∧ x = tellR e v 0))
set_option maxHeartbeats 2000000 in
theorem c_tables (b : Nat) (A : Ar) (R : Rt) (C : Nat → Prop) (hR : R.ok) (L : List It) (hm : isTab A R.t) (hL : IsH A 10 R.t L) (o : OpT) (ho : o.ok) (hk : o.kind = 2 ∨ o.kind = 3) (w : World) (hF : Ft C (WkO b A R C) w) :
  FC Tryz.prog 38 [.pointer (some ⟨b, 0, none⟩), .agg o.cells.toArray] w (fun v w' => ∃ x B r e C', v = x.val ∧ Ft C' (WkO b (if e = 0 then B else A) (if e = 0 then { R with t := r } else R) C') w' ∧ Agr (· = b) w w' ∧ Up C w C' ∧ U64 r ∧ TabsP A R.t L o x B r e) := by
 obtain ⟨hCb, na, fa, nc, fc, M, hbf, hnc, hfc, hA, hMb, hMC⟩ := hF.now
 have dA : ∀ k, M k → k ≠ b := fun k hk e => hMb (e ▸ hk)
 have hu := hR.2.1
 obtain ⟨_, _, oa, ob⟩ := ho
 refine FC.intro Tryz.func38 rfl Tryz.ntmps38 rfl ?_
 have G : Agr (· = b) w w := Agr.refl _ _
 refine RC.seq (RC.region rfl ?_);refine RL.box rfl rfl rfl (fun b_3 w_3 e_3 z_3 hb_3 s_3 => ?_);have G := G.trans s_3.agr;have hbf := hbf.sub s_3;have hA := hA.sub s_3;have hF := hF.sub s_3
 have hb_3 : Has w_3 b_3 (o.cells) _ := hb_3
 refine RL.alloc ze38 rfl rfl (fun b_4 w_4 e_4 z_4 hb_4 s_4 => ?_);have n__4 := hbf.ne e_4;have d_hA_b_4 := hA.neNew e_4;have d_hF_b_4 := hF.neNew e_4
 have geG_4 := agLe G e_4
 have G := G.trans s_4.agr;have hbf := hbf.sub s_4;have hA := hA.sub s_4;have hF := hF.sub s_4;have hb_3 := hb_3.sub s_4;refine RL.nil (RC.back (RC.seq ?_));refine RC.drawD (fun k => False) [] w_4.heap.size 17 rfl rfl mxo (fun w1 s2 => ?_);have ltD_b := hbf.lt;have ltD_b_3 := hb_3.lt;have szD := Nat.le_refl w_4.heap.size;have G := G.trans s2.agr;have hbf := hbf.sub s2;have hA := hA.sub s2;have hF := hF.sub s2;have hb_3 := hb_3.sub s2;have hb_4 := hb_4.sub s2;have szD := Nat.le_trans szD s2.size;refine RD.tS 0 rfl (fun w' s' => .move rfl) ?_;refine RD.tS 1 rfl (fun w' s' => .nilCheck rfl) ?_;refine RD.tS 2 rfl (fun w' s' => .field0 fo109_0 rfl) ?_;refine RD.tS 3 rfl (fun w' s' => .loadR (wvA na fa nc fc A) sh26 rfl (row_pref (xs := wvA na fa nc fc A) (ys := [.int .u64 R.m, .int .u64 R.t, .int .u64 R.r, .int .u64 R.h]) (hbf.step s' (fun e => e.elim (fun e => e.elim) (fun e => Nat.not_le.2 ltD_b e)))) rfl) ?_;refine RD.tS 4 rfl (fun w' s' => .move rfl) ?_;refine RD.tS 5 rfl (fun w' s' => .nilCheck rfl) ?_;refine RD.tS 6 rfl (fun w' s' => .field0 fo109_1 rfl) ?_;refine RD.tS 7 rfl (fun w' s' => .field0 fo33_1 rfl) ?_;refine RD.tS 8 rfl (fun w' s' => .load1 sh31 rfl ((hbf.step s' (fun e => e.elim (fun e => e.elim) (fun e => Nat.not_le.2 ltD_b e))).cell rfl)) ?_;refine RD.tS 9 rfl (fun w' s' => .field0 fo35_2 rfl) ?_;refine RD.tS 10 rfl (fun w' s' => .load1 sh2 rfl ((hb_3.step s' (fun e => e.elim (fun e => e.elim) (fun e => Nat.not_le.2 ltD_b_3 e))).cell rfl)) ?_;refine RD.oneS 11 rfl ?_;refine RL.call rfl ok79 (c_hGet A na fa nc fc hnc hfc R.t o.a hu w1 hA.now) rfl rfl ?_;rintro _ w3 ⟨s4, v0, n0, rfl, hg⟩;have G := G.trans s4.agr;have hbf := hbf.sub s4;have hA := hA.sub s4;have hF := hF.sub s4;have hb_3 := hb_3.sub s4;have hb_4 := hb_4.sub s4;have szD := Nat.le_trans szD s4.size;refine RD.back s4.agr ?_;refine RD.tS 12 rfl (fun w' s' => .move rfl) ?_;refine RD.tS 13 rfl (fun w' s' => .as (v' := .int .i64 v0) (.extract rfl rfl) (by rfl)) ?_;refine RD.tS 14 rfl (fun w' s' => .as (v' := .int .i64 n0) (.extract rfl rfl) (by rfl)) ?_;refine RD.tS 15 rfl (fun w' s' => .assign rfl) ?_;refine RD.tS 16 rfl (fun w' s' => .assign rfl) ?_;refine RD.done (by kernel_rfl) (RC.back ?_);refine RC.seq (RC.seq (RC.region rfl ?_));refine RL.eS (.field0 fo35_1 rfl) ?_;refine RL.eS (.load1 sh3 rfl (hb_3.cell rfl)) ?_;refine RL.nil (RC.back (RC.block (RC.seq (RC.region rfl ?_))));refine RL.eS (.bin rfl rfl rfl) ?_;refine RL.asS rfl ?_;refine RL.nil (RC.back ?_);refine RC.cond_dec rfl (fun h5 => ?_) (fun h5 => ?_)
 ·
  have k2 : o.kind = 2 := h5
  refine RC.cutx (α := MpS) (fun z => [(0, .pointer (some ⟨b, 0, none⟩)), (4, .pointer (some ⟨b_4, 0, none⟩)), (5, .int .i64 v0), (6, .int .i64 n0), (7, .pointer (some ⟨z.b7, 0, none⟩)), (8, .int .u64 z.r), (9, .int .i64 z.e)]) (fun z w6 => (b_4 ≠ z.b7 ∧ b ≠ z.b7 ∧ z.B.nodes.length ≤ z.ncb ∧ z.B.free.length ≤ z.fcb ∧ U64 z.r ∧ PutPH A R.t o.a o.b z.B z.r z.e ∧ (∀ k, z.M k → C k ∨ w.heap.size ≤ k)) ∧ (∀ k, z.M k → k ≠ b_4) ∧ (∀ k, z.M k → k ≠ b) ∧ Has w6 b_4 (⟨0, 0, 0⟩ : RsT).cells 38 ∧ Has w6 z.b7 (wvA z.nb z.fb z.ncb z.fcb z.B) 26 ∧ Ft z.M (fun u => ArR u z.nb z.fb z.B) w6 ∧ Ft C (WkO b A R C) w6 ∧ Agr (· = b) w w6) ?_ (fun z w6 hJ => ?_)
  ·
   refine RC.drawD (fun k => False) [19] w3.heap.size 22 rfl rfl mxo (fun w7 s8 => ?_);have ltD_b := hbf.lt;have ltD_b_3 := hb_3.lt;have szD := Nat.le_refl w3.heap.size;have G := G.trans s8.agr;have hbf := hbf.sub s8;have hA := hA.sub s8;have hF := hF.sub s8;have hb_3 := hb_3.sub s8;have hb_4 := hb_4.sub s8;have szD := Nat.le_trans szD s8.size;refine RD.tS 0 rfl (fun w' s' => .move rfl) ?_;refine RD.tS 1 rfl (fun w' s' => .nilCheck rfl) ?_;refine RD.tS 2 rfl (fun w' s' => .field0 fo109_0 rfl) ?_;refine RD.tS 3 rfl (fun w' s' => .loadR (wvA na fa nc fc A) sh26 rfl (row_pref (xs := wvA na fa nc fc A) (ys := [.int .u64 R.m, .int .u64 R.t, .int .u64 R.r, .int .u64 R.h]) (hbf.step s' (fun e => e.elim (fun e => e.elim) (fun e => Nat.not_le.2 ltD_b e)))) rfl) ?_;refine RD.tS 4 rfl (fun w' s' => .move rfl) ?_;refine RD.tS 5 rfl (fun w' s' => .nilCheck rfl) ?_;refine RD.tS 6 rfl (fun w' s' => .field0 fo109_1 rfl) ?_;refine RD.tS 7 rfl (fun w' s' => .field0 fo33_1 rfl) ?_;refine RD.tS 8 rfl (fun w' s' => .load1 sh31 rfl ((hbf.step s' (fun e => e.elim (fun e => e.elim) (fun e => Nat.not_le.2 ltD_b e))).cell rfl)) ?_;refine RD.tS 9 rfl (fun w' s' => .field0 fo35_2 rfl) ?_;refine RD.tS 10 rfl (fun w' s' => .load1 sh2 rfl ((hb_3.step s' (fun e => e.elim (fun e => e.elim) (fun e => Nat.not_le.2 ltD_b_3 e))).cell rfl)) ?_;refine RD.tS 11 rfl (fun w' s' => .field0 fo35_3 rfl) ?_;refine RD.tS 12 rfl (fun w' s' => .load1 sh2 rfl ((hb_3.step s' (fun e => e.elim (fun e => e.elim) (fun e => Nat.not_le.2 ltD_b_3 e))).cell rfl)) ?_;refine RD.all [13, 18] (by kernel_rfl) rfl (RDs.cons rfl ?_ (RDs.cons rfl ?_ (RDs.nil)))
   ·
    refine RL.call rfl ok80 (c_hPut A na fa nc fc hnc hfc R.t o.a o.b hu oa ob M w7 hA) rfl rfl ?_;rintro _ w9 ⟨s10, nb, fb, ncb, fcb, B, r1, e1, M1, rfl, hu1, hnB, hfB, hB, hup, hpp⟩;have szG1 := G.size;have d_hB_b := upNe hup dA hbf.lt;have d_hB_b_4 := upNe hup d_hA_b_4 hb_4.lt
    have dBb : ∀ k, M1 k → k ≠ b := d_hB_b
    have G := G.trans s10.agr;have hbf := hbf.sub s10;have hA := hA.sub s10;have hF := hF.sub s10;have hb_3 := hb_3.sub s10;have hb_4 := hb_4.sub s10;have szD := Nat.le_trans szD s10.size;refine RD.back s10.agr ?_;refine RD.tS 14 rfl (fun w' s' => .move rfl) ?_;refine RD.tS 15 rfl (fun w' s' => .extract rfl rfl) ?_;refine RD.tS 16 rfl (fun w' s' => .as (v' := .int .u64 r1) (.extract rfl rfl) (by rfl)) ?_;refine RD.tS 17 rfl (fun w' s' => .as (v' := .int .i64 e1) (.extract rfl rfl) (by rfl)) ?_;refine RD.oneS 18 rfl ?_;refine RL.alloc ze26 rfl rfl (fun b_7 w_7 e_7 z_7 hb_7 s_7 => ?_)
    have fr_b_7 : w3.heap.size ≤ b_7 := by rw [e_7]; exact szD
    have n__7 := hbf.ne e_7;have n_3__7 := hb_3.ne e_7;have n_4__7 := hb_4.ne e_7;have d_hA_b_7 := hA.neNew e_7;have d_hF_b_7 := hF.neNew e_7;have d_hB_b_7 := hB.neNew e_7
    have geG_7 := agLe G e_7
    have G := G.trans s_7.agr;have hbf := hbf.sub s_7;have hA := hA.sub s_7;have hF := hF.sub s_7;have hb_3 := hb_3.sub s_7;have hb_4 := hb_4.sub s_7;have szD := Nat.le_trans szD s_7.size;have hB := hB.sub s_7;refine RD.back s_7.agr ?_;refine RD.oneS 19 rfl ?_;refine RL.stS sh26 rfl rfl rfl hb_7 (fun w11 z11 hb_7 a11 => ?_)
    have G := agNew G a11 geG_7
    have hbf := hbf.upd a11 n__7;have hA := hA.updD a11 d_hA_b_7;have hF := hF.updD a11 d_hF_b_7;have hb_3 := hb_3.upd a11 n_3__7;have hb_4 := hb_4.upd a11 n_4__7;have szD := Nat.le_trans szD a11.size;have hB := hB.updD a11 d_hB_b_7
    have hb_7 : Has w11 b_7 (wvA nb fb ncb fcb B) _ := hb_7.now (by kernel_rfl)
    refine RD.backW rfl (a11.mono fun k _ e => e ▸ (.inr fr_b_7)) ?_;refine RD.tS 20 rfl (fun w' s' => .assign rfl) ?_;refine RD.tS 21 rfl (fun w' s' => .assign rfl) ?_
    exact RD.done (by kernel_rfl) (fun a ka => ⟨⟨b_7, B, r1, e1, nb, fb, ncb, fcb, M1⟩, ⟨⟨(by first | exact n_4__7 | exact n_7__4.symm), (by first | exact n__7 | exact n_7__.symm), hnB, hfB, hu1, hpp, fun k h => (hup k h).elim (fun h => .inl (hMC k h)) (fun h => .inr (Nat.le_trans szG1 h))⟩, d_hB_b_4, dBb, hb_4, hb_7, hB, hF, G⟩, ka.keep (keep_of (by repeat (first | exact trivial | refine And.intro rfl ?_)))⟩)
   ·
    refine RL.alloc ze26 rfl rfl (fun b_7 w_7 e_7 z_7 hb_7 s_7 => ?_)
    have fr_b_7 : w3.heap.size ≤ b_7 := by rw [e_7]; exact szD
    have n__7 := hbf.ne e_7;have n_3__7 := hb_3.ne e_7;have n_4__7 := hb_4.ne e_7;have d_hA_b_7 := hA.neNew e_7;have d_hF_b_7 := hF.neNew e_7
    have geG_7 := agLe G e_7
    have G := G.trans s_7.agr;have hbf := hbf.sub s_7;have hA := hA.sub s_7;have hF := hF.sub s_7;have hb_3 := hb_3.sub s_7;have hb_4 := hb_4.sub s_7;have szD := Nat.le_trans szD s_7.size;refine RD.back s_7.agr ?_;refine RD.oneS 13 rfl ?_;refine RL.call rfl ok80 (c_hPut A na fa nc fc hnc hfc R.t o.a o.b hu oa ob M w_7 hA) rfl rfl ?_;rintro _ w12 ⟨s13, nb, fb, ncb, fcb, B, r1, e1, M1, rfl, hu1, hnB, hfB, hB, hup, hpp⟩;have szG1 := G.size;have d_hB_b := upNe hup dA hbf.lt;have d_hB_b_4 := upNe hup d_hA_b_4 hb_4.lt;have d_hB_b_7 := upNe hup d_hA_b_7 hb_7.lt
    have dBb : ∀ k, M1 k → k ≠ b := d_hB_b
    have G := G.trans s13.agr;have hbf := hbf.sub s13;have hA := hA.sub s13;have hF := hF.sub s13;have hb_3 := hb_3.sub s13;have hb_4 := hb_4.sub s13;have szD := Nat.le_trans szD s13.size;have hb_7 := hb_7.sub s13;refine RD.back s13.agr ?_;refine RD.tS 14 rfl (fun w' s' => .move rfl) ?_;refine RD.tS 15 rfl (fun w' s' => .extract rfl rfl) ?_;refine RD.tS 16 rfl (fun w' s' => .as (v' := .int .u64 r1) (.extract rfl rfl) (by rfl)) ?_;refine RD.tS 17 rfl (fun w' s' => .as (v' := .int .i64 e1) (.extract rfl rfl) (by rfl)) ?_;refine RD.oneS 19 rfl ?_;refine RL.stS sh26 rfl rfl rfl hb_7 (fun w14 z14 hb_7 a14 => ?_)
    have G := agNew G a14 geG_7
    have hbf := hbf.upd a14 n__7;have hA := hA.updD a14 d_hA_b_7;have hF := hF.updD a14 d_hF_b_7;have hb_3 := hb_3.upd a14 n_3__7;have hb_4 := hb_4.upd a14 n_4__7;have szD := Nat.le_trans szD a14.size;have hB := hB.updD a14 d_hB_b_7
    have hb_7 : Has w14 b_7 (wvA nb fb ncb fcb B) _ := hb_7.now (by kernel_rfl)
    refine RD.backW rfl (a14.mono fun k _ e => e ▸ (.inr fr_b_7)) ?_;refine RD.tS 20 rfl (fun w' s' => .assign rfl) ?_;refine RD.tS 21 rfl (fun w' s' => .assign rfl) ?_
    exact RD.done (by kernel_rfl) (fun a ka => ⟨⟨b_7, B, r1, e1, nb, fb, ncb, fcb, M1⟩, ⟨⟨(by first | exact n_4__7 | exact n_7__4.symm), (by first | exact n__7 | exact n_7__.symm), hnB, hfB, hu1, hpp, fun k h => (hup k h).elim (fun h => .inl (hMC k h)) (fun h => .inr (Nat.le_trans szG1 h))⟩, d_hB_b_4, dBb, hb_4, hb_7, hB, hF, G⟩, ka.keep (keep_of (by repeat (first | exact trivial | refine And.intro rfl ?_)))⟩)
  obtain ⟨b_7, B, r1, e1, nb, fb, ncb, fcb, M1⟩ := z
  obtain ⟨⟨nm4, nmb, hnB, hfB, hu1, hpp, hupM⟩, d_hB_b_4, dBb, hb_4, hb_7, hB, hF, G⟩ := hJ
  simp only [] at nm4 nmb hnB hfB hu1 hpp hupM d_hB_b_4 dBb hb_7 hB
  refine RC.seq (RC.seq ?_);refine RC.drawD (fun k => k = b) [8, 8] w6.heap.size 9 rfl rfl mxo (fun w15 s16 => ?_);have ltD_b_7 := hb_7.lt;have szD := Nat.le_refl w6.heap.size;have G := G.trans s16.agr;have hb_4 := hb_4.sub s16;have hb_7 := hb_7.sub s16;have hB := hB.sub s16;have hF := hF.sub s16;have szD := Nat.le_trans szD s16.size;refine RD.tS 0 rfl (fun w' s' => .move rfl) ?_;refine RD.tS 1 rfl (fun w' s' => .loadR (wvA nb fb ncb fcb B) sh26 rfl (hb_7.step s' (fun e => e.elim (fun e => nmb.symm e) (fun e => Nat.not_le.2 ltD_b_7 e))).row rfl) ?_;refine RD.tS 2 rfl (fun w' s' => .move rfl) ?_;refine RD.tS 3 rfl (fun w' s' => .nilCheck rfl) ?_;refine RD.tS 4 rfl (fun w' s' => .field0 fo109_1 rfl) ?_;refine RD.tS 5 rfl (fun w' s' => .field0 fo33_1 rfl) ?_;refine RD.tS 6 rfl (fun w' s' => .move rfl) ?_;refine RD.tS 7 rfl (fun w' s' => .move rfl) ?_;refine RD.oneS 8 rfl ?_;refine RL.call rfl ok75 (c_tookT b A R C nb fb ncb fcb B hnB hfB M1 r1 e1 w15 hF hB dBb) rfl rfl ?_;rintro _ w17 ⟨C1, hF1, ag, hc1⟩;have G := G.trans ag;have hb_4 := hb_4.upd ag n__4.symm;have szD := Nat.le_trans szD ag.size
  have dF4 : ∀ k, C1 k → k ≠ b_4 := (fun k hk e => (hc1 k hk).elim (fun h => d_hF_b_4 k h e) (fun h => d_hB_b_4 k h e))
  have hF := hF1
  have hup1 : Up C w C1 := (fun k hk => (hc1 k hk).elim .inl (hupM k))
  refine RD.backW rfl (ag.mono fun k _ e => .inl e) ?_;refine RD.done (by kernel_rfl) (RC.back ?_);refine RC.seq (RC.region rfl ?_);refine RL.mvS rfl ?_;refine RL.eS (.bin rfl rfl rfl) ?_;refine RL.nil (RC.back ?_);refine RC.cond_dec rfl (fun h19 => ?_) (fun h19 => ?_)
  ·
   have hn := h19
   refine RC.seq (RC.region rfl ?_);refine RL.mvS rfl ?_;refine RL.call rfl ok76 (c_tellR e1 0 0 w17) rfl rfl ?_;rintro _ w20 ⟨rfl, s21⟩;have G := G.trans s21.agr;have hb_4 := hb_4.sub s21;have hF := hF.sub s21;refine RL.stS sh38 rfl rfl rfl hb_4 (fun w22 z22 hb_4 a22 => ?_)
   have G := agNew G a22 geG_4
   have hF := hF.updD a22 dF4
   have hb_4 : Has w22 b_4 ((tellR e1 0 0).cells) _ := hb_4.now (by kernel_rfl)
   refine RL.nil (RC.back ?_);refine RC.done (rs := [.cell 4 38]) (vs := [_]) rfl rfl ⟨⟨_, rfl, .inr ⟨(tellR e1 0 0).cells, sh38, hb_4.row, rfl⟩⟩, trivial⟩ ?_
   exact ⟨_, B, r1, e1, C1, rfl, hF, G, hup1, hu1, v0, n0, hg, .inl ⟨k2, hpp, by rw [if_neg hn]⟩⟩
  ·
   have hn : n0 = 0 := Decidable.not_not.1 h19
   refine RC.skip (RC.back (RC.seq (RC.region rfl ?_)));refine RL.mvS rfl ?_;refine RL.mvS rfl ?_;refine RL.call rfl ok76 (c_tellR e1 1 v0 w17) rfl rfl ?_;rintro _ w23 ⟨rfl, s24⟩;have G := G.trans s24.agr;have hb_4 := hb_4.sub s24;have hF := hF.sub s24;refine RL.stS sh38 rfl rfl rfl hb_4 (fun w25 z25 hb_4 a25 => ?_)
   have G := agNew G a25 geG_4
   have hF := hF.updD a25 dF4
   have hb_4 : Has w25 b_4 ((tellR e1 1 v0).cells) _ := hb_4.now (by kernel_rfl)
   refine RL.nil (RC.back ?_);refine RC.done (rs := [.cell 4 38]) (vs := [_]) rfl rfl ⟨⟨_, rfl, .inr ⟨(tellR e1 1 v0).cells, sh38, hb_4.row, rfl⟩⟩, trivial⟩ ?_
   exact ⟨_, B, r1, e1, C1, rfl, hF, G, hup1, hu1, v0, n0, hg, .inl ⟨k2, hpp, by rw [if_pos hn]⟩⟩
 ·
  have k3 : o.kind = 3 := hk.resolve_left h5
  refine RC.seq (RC.region rfl ?_);refine RL.eS (.bin rfl rfl rfl) ?_;refine RL.asS rfl ?_;refine RL.nil (RC.back ?_);refine RC.cond_dec rfl (fun h26 => ?_) (fun h26 => ?_)
  ·
   have k3' := h26
   refine RC.cutx (α := MpS) (fun z => [(0, .pointer (some ⟨b, 0, none⟩)), (4, .pointer (some ⟨b_4, 0, none⟩)), (5, .int .i64 v0), (6, .int .i64 n0), (10, .pointer (some ⟨z.b7, 0, none⟩)), (11, .int .u64 z.r), (12, .int .i64 z.e)]) (fun z w27 => (b_4 ≠ z.b7 ∧ b ≠ z.b7 ∧ z.B.nodes.length ≤ z.ncb ∧ z.B.free.length ≤ z.fcb ∧ U64 z.r ∧ DelPH A R.t o.a z.B z.r z.e ∧ (∀ k, z.M k → C k ∨ w.heap.size ≤ k)) ∧ (∀ k, z.M k → k ≠ b_4) ∧ (∀ k, z.M k → k ≠ b) ∧ Has w27 b_4 (⟨0, 0, 0⟩ : RsT).cells 38 ∧ Has w27 z.b7 (wvA z.nb z.fb z.ncb z.fcb z.B) 26 ∧ Ft z.M (fun u => ArR u z.nb z.fb z.B) w27 ∧ Ft C (WkO b A R C) w27 ∧ Agr (· = b) w w27) ?_ (fun z w27 hJ => ?_)
   ·
    refine RC.drawD (fun k => False) [17] w3.heap.size 20 rfl rfl mxo (fun w28 s29 => ?_);have ltD_b := hbf.lt;have ltD_b_3 := hb_3.lt;have szD := Nat.le_refl w3.heap.size;have G := G.trans s29.agr;have hbf := hbf.sub s29;have hA := hA.sub s29;have hF := hF.sub s29;have hb_3 := hb_3.sub s29;have hb_4 := hb_4.sub s29;have szD := Nat.le_trans szD s29.size;refine RD.tS 0 rfl (fun w' s' => .move rfl) ?_;refine RD.tS 1 rfl (fun w' s' => .nilCheck rfl) ?_;refine RD.tS 2 rfl (fun w' s' => .field0 fo109_0 rfl) ?_;refine RD.tS 3 rfl (fun w' s' => .loadR (wvA na fa nc fc A) sh26 rfl (row_pref (xs := wvA na fa nc fc A) (ys := [.int .u64 R.m, .int .u64 R.t, .int .u64 R.r, .int .u64 R.h]) (hbf.step s' (fun e => e.elim (fun e => e.elim) (fun e => Nat.not_le.2 ltD_b e)))) rfl) ?_;refine RD.tS 4 rfl (fun w' s' => .move rfl) ?_;refine RD.tS 5 rfl (fun w' s' => .nilCheck rfl) ?_;refine RD.tS 6 rfl (fun w' s' => .field0 fo109_1 rfl) ?_;refine RD.tS 7 rfl (fun w' s' => .field0 fo33_1 rfl) ?_;refine RD.tS 8 rfl (fun w' s' => .load1 sh31 rfl ((hbf.step s' (fun e => e.elim (fun e => e.elim) (fun e => Nat.not_le.2 ltD_b e))).cell rfl)) ?_;refine RD.tS 9 rfl (fun w' s' => .field0 fo35_2 rfl) ?_;refine RD.tS 10 rfl (fun w' s' => .load1 sh2 rfl ((hb_3.step s' (fun e => e.elim (fun e => e.elim) (fun e => Nat.not_le.2 ltD_b_3 e))).cell rfl)) ?_;refine RD.all [11, 16] (by kernel_rfl) rfl (RDs.cons rfl ?_ (RDs.cons rfl ?_ (RDs.nil)))
    ·
     refine RL.call rfl ok81 (c_hDel A na fa nc fc hnc hfc R.t o.a hu oa M w28 hA) rfl rfl ?_;rintro _ w30 ⟨s31, nb, fb, ncb, fcb, B, r1, e1, M1, rfl, hu1, hnB, hfB, hB, hup, hpp⟩;have szG1 := G.size;have d_hB_b := upNe hup dA hbf.lt;have d_hB_b_4 := upNe hup d_hA_b_4 hb_4.lt
     have dBb : ∀ k, M1 k → k ≠ b := d_hB_b
     have G := G.trans s31.agr;have hbf := hbf.sub s31;have hA := hA.sub s31;have hF := hF.sub s31;have hb_4 := hb_4.sub s31;have szD := Nat.le_trans szD s31.size;refine RD.back s31.agr ?_;refine RD.tS 12 rfl (fun w' s' => .move rfl) ?_;refine RD.tS 13 rfl (fun w' s' => .extract rfl rfl) ?_;refine RD.tS 14 rfl (fun w' s' => .as (v' := .int .u64 r1) (.extract rfl rfl) (by rfl)) ?_;refine RD.tS 15 rfl (fun w' s' => .as (v' := .int .i64 e1) (.extract rfl rfl) (by rfl)) ?_;refine RD.oneS 16 rfl ?_;refine RL.alloc ze26 rfl rfl (fun b_10 w_10 e_10 z_10 hb_10 s_10 => ?_)
     have fr_b_10 : w3.heap.size ≤ b_10 := by rw [e_10]; exact szD
     have n__10 := hbf.ne e_10;have n_4__10 := hb_4.ne e_10;have d_hA_b_10 := hA.neNew e_10;have d_hF_b_10 := hF.neNew e_10;have d_hB_b_10 := hB.neNew e_10
     have geG_10 := agLe G e_10
     have G := G.trans s_10.agr;have hbf := hbf.sub s_10;have hA := hA.sub s_10;have hF := hF.sub s_10;have hb_4 := hb_4.sub s_10;have szD := Nat.le_trans szD s_10.size;have hB := hB.sub s_10;refine RD.back s_10.agr ?_;refine RD.oneS 17 rfl ?_;refine RL.stS sh26 rfl rfl rfl hb_10 (fun w32 z32 hb_10 a32 => ?_)
     have G := agNew G a32 geG_10
     have hbf := hbf.upd a32 n__10;have hA := hA.updD a32 d_hA_b_10;have hF := hF.updD a32 d_hF_b_10;have hb_4 := hb_4.upd a32 n_4__10;have szD := Nat.le_trans szD a32.size;have hB := hB.updD a32 d_hB_b_10
     have hb_10 : Has w32 b_10 (wvA nb fb ncb fcb B) _ := hb_10.now (by kernel_rfl)
     refine RD.backW rfl (a32.mono fun k _ e => e ▸ (.inr fr_b_10)) ?_;refine RD.tS 18 rfl (fun w' s' => .assign rfl) ?_;refine RD.tS 19 rfl (fun w' s' => .assign rfl) ?_
     exact RD.done (by kernel_rfl) (fun a ka => ⟨⟨b_10, B, r1, e1, nb, fb, ncb, fcb, M1⟩, ⟨⟨(by first | exact n_4__10 | exact n_10__4.symm), (by first | exact n__10 | exact n_10__.symm), hnB, hfB, hu1, hpp, fun k h => (hup k h).elim (fun h => .inl (hMC k h)) (fun h => .inr (Nat.le_trans szG1 h))⟩, d_hB_b_4, dBb, hb_4, hb_10, hB, hF, G⟩, ka.keep (keep_of (by repeat (first | exact trivial | refine And.intro rfl ?_)))⟩)
    ·
     refine RL.alloc ze26 rfl rfl (fun b_10 w_10 e_10 z_10 hb_10 s_10 => ?_)
     have fr_b_10 : w3.heap.size ≤ b_10 := by rw [e_10]; exact szD
     have n__10 := hbf.ne e_10;have n_4__10 := hb_4.ne e_10;have d_hA_b_10 := hA.neNew e_10;have d_hF_b_10 := hF.neNew e_10
     have geG_10 := agLe G e_10
     have G := G.trans s_10.agr;have hbf := hbf.sub s_10;have hA := hA.sub s_10;have hF := hF.sub s_10;have hb_4 := hb_4.sub s_10;refine RD.back s_10.agr ?_;refine RD.oneS 11 rfl ?_;refine RL.call rfl ok81 (c_hDel A na fa nc fc hnc hfc R.t o.a hu oa M w_10 hA) rfl rfl ?_;rintro _ w33 ⟨s34, nb, fb, ncb, fcb, B, r1, e1, M1, rfl, hu1, hnB, hfB, hB, hup, hpp⟩;have szG1 := G.size;have d_hB_b := upNe hup dA hbf.lt;have d_hB_b_4 := upNe hup d_hA_b_4 hb_4.lt;have d_hB_b_10 := upNe hup d_hA_b_10 hb_10.lt
     have dBb : ∀ k, M1 k → k ≠ b := d_hB_b
     have G := G.trans s34.agr;have hF := hF.sub s34;have hb_4 := hb_4.sub s34;have hb_10 := hb_10.sub s34;refine RD.back s34.agr ?_;refine RD.tS 12 rfl (fun w' s' => .move rfl) ?_;refine RD.tS 13 rfl (fun w' s' => .extract rfl rfl) ?_;refine RD.tS 14 rfl (fun w' s' => .as (v' := .int .u64 r1) (.extract rfl rfl) (by rfl)) ?_;refine RD.tS 15 rfl (fun w' s' => .as (v' := .int .i64 e1) (.extract rfl rfl) (by rfl)) ?_;refine RD.oneS 17 rfl ?_;refine RL.stS sh26 rfl rfl rfl hb_10 (fun w35 z35 hb_10 a35 => ?_)
     have G := agNew G a35 geG_10
     have hF := hF.updD a35 d_hF_b_10;have hb_4 := hb_4.upd a35 n_4__10;have hB := hB.updD a35 d_hB_b_10
     have hb_10 : Has w35 b_10 (wvA nb fb ncb fcb B) _ := hb_10.now (by kernel_rfl)
     refine RD.backW rfl (a35.mono fun k _ e => e ▸ (.inr fr_b_10)) ?_;refine RD.tS 18 rfl (fun w' s' => .assign rfl) ?_;refine RD.tS 19 rfl (fun w' s' => .assign rfl) ?_
     exact RD.done (by kernel_rfl) (fun a ka => ⟨⟨b_10, B, r1, e1, nb, fb, ncb, fcb, M1⟩, ⟨⟨(by first | exact n_4__10 | exact n_10__4.symm), (by first | exact n__10 | exact n_10__.symm), hnB, hfB, hu1, hpp, fun k h => (hup k h).elim (fun h => .inl (hMC k h)) (fun h => .inr (Nat.le_trans szG1 h))⟩, d_hB_b_4, dBb, hb_4, hb_10, hB, hF, G⟩, ka.keep (keep_of (by repeat (first | exact trivial | refine And.intro rfl ?_)))⟩)
   obtain ⟨b_10, B, r1, e1, nb, fb, ncb, fcb, M1⟩ := z
   obtain ⟨⟨nm4, nmb, hnB, hfB, hu1, hpp, hupM⟩, d_hB_b_4, dBb, hb_4, hb_10, hB, hF, G⟩ := hJ
   simp only [] at nm4 nmb hnB hfB hu1 hpp hupM d_hB_b_4 dBb hb_10 hB
   refine RC.seq ?_;refine RC.drawD (fun k => k = b) [8, 8] w27.heap.size 9 rfl rfl mxo (fun w36 s37 => ?_);have ltD_b_10 := hb_10.lt;have G := G.trans s37.agr;have hb_4 := hb_4.sub s37;have hb_10 := hb_10.sub s37;have hB := hB.sub s37;have hF := hF.sub s37;refine RD.tS 0 rfl (fun w' s' => .move rfl) ?_;refine RD.tS 1 rfl (fun w' s' => .loadR (wvA nb fb ncb fcb B) sh26 rfl (hb_10.step s' (fun e => e.elim (fun e => nmb.symm e) (fun e => Nat.not_le.2 ltD_b_10 e))).row rfl) ?_;refine RD.tS 2 rfl (fun w' s' => .move rfl) ?_;refine RD.tS 3 rfl (fun w' s' => .nilCheck rfl) ?_;refine RD.tS 4 rfl (fun w' s' => .field0 fo109_1 rfl) ?_;refine RD.tS 5 rfl (fun w' s' => .field0 fo33_1 rfl) ?_;refine RD.tS 6 rfl (fun w' s' => .move rfl) ?_;refine RD.tS 7 rfl (fun w' s' => .move rfl) ?_;refine RD.oneS 8 rfl ?_;refine RL.call rfl ok75 (c_tookT b A R C nb fb ncb fcb B hnB hfB M1 r1 e1 w36 hF hB dBb) rfl rfl ?_;rintro _ w38 ⟨C1, hF1, ag, hc1⟩;have G := G.trans ag;have hb_4 := hb_4.upd ag n__4.symm
   have dF4 : ∀ k, C1 k → k ≠ b_4 := (fun k hk e => (hc1 k hk).elim (fun h => d_hF_b_4 k h e) (fun h => d_hB_b_4 k h e))
   have hF := hF1
   have hup1 : Up C w C1 := (fun k hk => (hc1 k hk).elim .inl (hupM k))
   refine RD.backW rfl (ag.mono fun k _ e => .inl e) ?_;refine RD.done (by kernel_rfl) (RC.back ?_);refine RC.seq (RC.region rfl ?_);refine RL.mvS rfl ?_;refine RL.mvS rfl ?_;refine RL.call rfl ok76 (c_tellR e1 v0 0 w38) rfl rfl ?_;rintro _ w40 ⟨rfl, s41⟩;have G := G.trans s41.agr;have hb_4 := hb_4.sub s41;have hF := hF.sub s41;refine RL.stS sh38 rfl rfl rfl hb_4 (fun w42 z42 hb_4 a42 => ?_)
   have G := agNew G a42 geG_4
   have hF := hF.updD a42 dF4
   have hb_4 : Has w42 b_4 ((tellR e1 v0 0).cells) _ := hb_4.now (by kernel_rfl)
   refine RL.nil (RC.back ?_);refine RC.done (rs := [.cell 4 38]) (vs := [_]) rfl rfl ⟨⟨_, rfl, .inr ⟨(tellR e1 v0 0).cells, sh38, hb_4.row, rfl⟩⟩, trivial⟩ ?_
   exact ⟨_, B, r1, e1, C1, rfl, hF, G, hup1, hu1, v0, n0, hg, .inr ⟨k3, hpp, rfl⟩⟩
  ·
   exact absurd k3 h26
end Go.Proofs.YtbjmllnddanniaaGreat
