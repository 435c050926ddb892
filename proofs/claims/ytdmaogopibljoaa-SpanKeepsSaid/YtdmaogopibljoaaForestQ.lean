/-
  What the forest's methods make, in plain Lean.
-/
import Derived.Test.YtdmaogopibljoaaForestP
set_option linter.unusedVariables false
set_option linter.unusedSimpArgs false
namespace Go.Proofs.Ytdmaogopibljoaa
open Go Go.XL

section
variable {A0 : Ar} {s s1 s2 : St} {a b r1 r2 r3 key v : Int} {it jt : It} {L R L1 R1 : List It}
theorem split_lt (hE : Ext A0 s.1) (h2 : IsT A0 a L) (hp : ∀ y ∈ L ++ R, beforeK it.k y.k = true) (hs : Srt (L ++ it :: R)) (q : it.k < key) (hl : (L ++ it :: R).length ≤ 1000)
    (hg : Gs R.length s s1) (hi : s1.2 = 0 → IsT s1.1 r1 (ltL key R) ∧ IsT s1.1 r2 (geL key R)) (hm : Mk s1 it.k it.v a r1 s2 r3) :
    Gs (L ++ it :: R).length s s2 ∧ (s2.2 = 0 → IsT s2.1 r3 (ltL key (L ++ it :: R)) ∧ IsT s2.1 r2 (geL key (L ++ it :: R))) := by
  rw [List.length_append, List.length_cons] at hl
  have h2' := (hE.trans hg.ext).isT h2
  have g1 := hm.gs hg.ok (fun h => ⟨h2'.right, (hi h).1.right⟩)
  refine ⟨(hg.trans g1).mono (by simp only [List.length_append, List.length_cons]; omega), fun h => ?_⟩
  obtain ⟨i1, i2⟩ := hi (g1.back h)
  have hfl : (ltL key R).length ≤ R.length := List.length_filter_le _ _
  rw [ltL_lt hs q, geL_lt hs q]
  refine ⟨hm.isT hg.ok h h2' i1 (by omega) (fun y hy => hp y ?_) ?_, g1.ext.isT i2⟩
  · rcases List.mem_append.1 hy with hy | hy
    · exact List.mem_append_left _ hy
    · exact List.mem_append_right _ (filter_sub hy)
  · rw [← ltL_lt hs q]; exact hs.sub
theorem split_ge (hE : Ext A0 s.1) (h3 : IsT A0 b R) (hp : ∀ y ∈ L ++ R, beforeK it.k y.k = true) (hs : Srt (L ++ it :: R)) (q : ¬ it.k < key) (hl : (L ++ it :: R).length ≤ 1000)
    (hg : Gs L.length s s1) (hi : s1.2 = 0 → IsT s1.1 r1 (ltL key L) ∧ IsT s1.1 r2 (geL key L)) (hm : Mk s1 it.k it.v r2 b s2 r3) :
    Gs (L ++ it :: R).length s s2 ∧ (s2.2 = 0 → IsT s2.1 r1 (ltL key (L ++ it :: R)) ∧ IsT s2.1 r3 (geL key (L ++ it :: R))) := by
  rw [List.length_append, List.length_cons] at hl
  have h3' := (hE.trans hg.ext).isT h3
  have g1 := hm.gs hg.ok (fun h => ⟨(hi h).2.right, h3'.right⟩)
  refine ⟨(hg.trans g1).mono (by simp only [List.length_append, List.length_cons]; omega), fun h => ?_⟩
  obtain ⟨i1, i2⟩ := hi (g1.back h)
  have hfl : (geL key L).length ≤ L.length := List.length_filter_le _ _
  rw [ltL_ge hs q, geL_ge hs q]
  refine ⟨g1.ext.isT i1, hm.isT hg.ok h i2 h3' (by omega) (fun y hy => hp y ?_) ?_⟩
  · rcases List.mem_append.1 hy with hy | hy
    · exact List.mem_append_left _ (filter_sub hy)
    · exact List.mem_append_right _ hy
  · rw [← geL_ge hs q]; exact hs.sub
/-- two rows, one behind the other -/
def Lt2 (L R : List It) : Prop := ∀ x ∈ L, ∀ y ∈ R, x.k < y.k
theorem srt_app (h1 : Srt L) (h2 : Srt R) (h : Lt2 L R) : Srt (L ++ R) := List.pairwise_append.2 ⟨h1, h2, h⟩
/-- the top of a map is ahead of all of it -/
theorem join_before (hE : Ext A0 s.1) (h2 : IsT A0 a L) (hp : ∀ y ∈ L ++ R, beforeK it.k y.k = true) (hs : Srt (L ++ it :: R)) (hq : ∀ y ∈ L1 ++ jt :: R1, beforeK it.k y.k = true) (hs1 : Srt (L1 ++ jt :: R1)) (h12 : Lt2 (L ++ it :: R) (L1 ++ jt :: R1))
    (hl : (L ++ it :: R).length + (L1 ++ jt :: R1).length ≤ 1000) (hg : Gs (R.length + (L1 ++ jt :: R1).length) s s1) (hi : s1.2 = 0 → IsT s1.1 r1 (R ++ (L1 ++ jt :: R1))) (hm : Mk s1 it.k it.v a r1 s2 r3) :
    Gs ((L ++ it :: R).length + (L1 ++ jt :: R1).length) s s2 ∧ (s2.2 = 0 → IsT s2.1 r3 ((L ++ it :: R) ++ (L1 ++ jt :: R1))) := by
  have h2' := (hE.trans hg.ext).isT h2
  have g1 := hm.gs hg.ok (fun h => ⟨h2'.right, (hi h).right⟩)
  refine ⟨(hg.trans g1).mono (by simp only [List.length_append, List.length_cons]; omega), fun h => ?_⟩
  have i1 := hi (g1.back h)
  rw [List.append_assoc, List.cons_append]
  refine hm.isT hg.ok h h2' i1 (by simp only [List.length_append, List.length_cons] at hl ⊢; omega) (fun y hy => ?_) ?_
  · rcases List.mem_append.1 hy with hy | hy
    · exact hp y (List.mem_append_left _ hy)
    · rcases List.mem_append.1 hy with hy | hy
      · exact hp y (List.mem_append_right _ hy)
      · exact hq y hy
  · have := srt_app hs hs1 h12
    rw [List.append_assoc, List.cons_append] at this
    exact this
theorem join_after (hE : Ext A0 s.1) (h3 : IsT A0 b R1) (hp : ∀ y ∈ L1 ++ R1, beforeK jt.k y.k = true) (hs : Srt (L1 ++ jt :: R1)) (hq : ∀ y ∈ L, beforeK jt.k y.k = true) (hs1 : Srt L) (h12 : Lt2 L (L1 ++ jt :: R1))
    (hl : L.length + (L1 ++ jt :: R1).length ≤ 1000) (hg : Gs (L.length + L1.length) s s1) (hi : s1.2 = 0 → IsT s1.1 r1 (L ++ L1)) (hm : Mk s1 jt.k jt.v r1 b s2 r3) :
    Gs (L.length + (L1 ++ jt :: R1).length) s s2 ∧ (s2.2 = 0 → IsT s2.1 r3 (L ++ (L1 ++ jt :: R1))) := by
  have h3' := (hE.trans hg.ext).isT h3
  have g1 := hm.gs hg.ok (fun h => ⟨(hi h).right, h3'.right⟩)
  refine ⟨(hg.trans g1).mono (by simp only [List.length_append, List.length_cons]; omega), fun h => ?_⟩
  have i1 := hi (g1.back h)
  rw [← List.append_assoc]
  refine hm.isT hg.ok h i1 h3' (by simp only [List.length_append, List.length_cons] at hl ⊢; omega) (fun y hy => ?_) ?_
  · rcases List.mem_append.1 hy with hy | hy
    · rcases List.mem_append.1 hy with hy | hy
      · exact hq y hy
      · exact hp y (List.mem_append_left _ hy)
    · exact hp y (List.mem_append_right _ hy)
  · have := srt_app hs1 hs h12
    rw [← List.append_assoc] at this
    exact this
/-! ### put -/
theorem put_new (hA : AOk s.1) (hm : Mk s key v 0 0 s1 r1) : Gs 1 s s1 ∧ (s1.2 = 0 → IsT s1.1 r1 (putL [] key v)) := by
  have h0 : rightR 0 = true := (rightR_iff 0).2 (.inl rfl)
  exact ⟨hm.gs hA (fun _ => ⟨h0, h0⟩), fun h => Mk.isT (it := ⟨key, v⟩) (L := []) (R := []) hm hA h .nil .nil (by simp) (fun y hy => (by simp at hy)) (List.pairwise_singleton _ _)⟩
theorem put_same (hE : Ext A0 s.1) (hA : AOk s.1) (h2 : IsT A0 a L) (h3 : IsT A0 b R) (hp : ∀ y ∈ L ++ R, beforeK it.k y.k = true) (hs : Srt (L ++ it :: R)) (q : it.k = key) (hl : (L ++ it :: R).length ≤ 1000) (hm : Mk s key v a b s1 r1) :
    Gs ((L ++ it :: R).length + 1) s s1 ∧ (s1.2 = 0 → IsT s1.1 r1 (putL (L ++ it :: R) key v)) := by
  have h2' := hE.isT h2
  have h3' := hE.isT h3
  refine ⟨(hm.gs hA (fun _ => ⟨h2'.right, h3'.right⟩)).mono (by omega), fun h => ?_⟩
  rw [putL_eq hs q]
  have hss := hs.split
  refine Mk.isT (it := ⟨key, v⟩) hm hA h h2' h3' (by simp only [List.length_append, List.length_cons] at hl; omega) (fun y hy => by rw [← q]; exact hp y hy) (Srt.join hss.1 hss.2.1 (fun y hy => ?_) (fun y hy => ?_))
  · have := hss.2.2.1 y hy; show y.k < key; omega
  · have := hss.2.2.2 y hy; show key < y.k; omega
theorem put_top (hp : ∀ y ∈ L ++ R, beforeK it.k y.k = true) (hs : Srt (L ++ it :: R)) (q : beforeK key it.k = true) (hl : (L ++ it :: R).length ≤ 1000) (hg : Gs (L ++ it :: R).length s s1)
    (hi : s1.2 = 0 → IsT s1.1 r1 (ltL key (L ++ it :: R)) ∧ IsT s1.1 r2 (geL key (L ++ it :: R))) (hm : Mk s1 key v r1 r2 s2 r3) :
    Gs ((L ++ it :: R).length + 1) s s2 ∧ (s2.2 = 0 → IsT s2.1 r3 (putL (L ++ it :: R) key v)) := by
  have g1 := hm.gs hg.ok (fun h => ⟨(hi h).1.right, (hi h).2.right⟩)
  refine ⟨hg.trans g1, fun h => ?_⟩
  obtain ⟨i1, i2⟩ := hi (g1.back h)
  have hall : ∀ y ∈ L ++ it :: R, beforeK key y.k = true := by
    intro y hy
    rcases List.mem_append.1 hy with hy | hy
    · exact befK_trans q (hp y (List.mem_append_left _ hy))
    · rcases List.mem_cons.1 hy with rfl | hy
      · exact q
      · exact befK_trans q (hp y (List.mem_append_right _ hy))
  have hne : ∀ y ∈ L ++ it :: R, ¬ y.k = key := fun y hy e => by
    have := hall y hy
    rw [e, befK_irr] at this
    cases this
  rw [geL_gt hne] at i2
  have h1 : (ltL key (L ++ it :: R)).length ≤ (L ++ it :: R).length := List.length_filter_le _ _
  have h2 : (gtL key (L ++ it :: R)).length ≤ (L ++ it :: R).length := List.length_filter_le _ _
  refine Mk.isT (it := ⟨key, v⟩) hm hg.ok h i1 i2 (by omega) (fun y hy => hall y ?_) hs.put
  rcases List.mem_append.1 hy with hy | hy
  · exact filter_sub hy
  · exact filter_sub hy
theorem put_left (hE : Ext A0 s.1) (h3 : IsT A0 b R) (hp : ∀ y ∈ L ++ R, beforeK it.k y.k = true) (hs : Srt (L ++ it :: R)) (q : ¬ beforeK key it.k = true) (q2 : key < it.k) (hl : (L ++ it :: R).length ≤ 1000) (hg : Gs (L.length + 1) s s1)
    (hi : s1.2 = 0 → IsT s1.1 r1 (putL L key v)) (hm : Mk s1 it.k it.v r1 b s2 r3) : Gs ((L ++ it :: R).length + 1) s s2 ∧ (s2.2 = 0 → IsT s2.1 r3 (putL (L ++ it :: R) key v)) := by
  have h3' := (hE.trans hg.ext).isT h3
  have g1 := hm.gs hg.ok (fun h => ⟨(hi h).right, h3'.right⟩)
  refine ⟨(hg.trans g1).mono (by simp only [List.length_append, List.length_cons]; omega), fun h => ?_⟩
  have i1 := hi (g1.back h)
  have hpl := putL_len (key := key) (v := v) hs.split.1
  simp only [List.length_append, List.length_cons] at hl
  have hsp : Srt (putL (L ++ it :: R) key v) := hs.put
  rw [putL_lt hs q2] at hsp ⊢
  refine hm.isT hg.ok h i1 h3' (by omega) (fun y hy => ?_) hsp
  rcases List.mem_append.1 hy with hy | hy
  · rcases putL_mem hy with rfl | hy
    · exact (befK_total (show ¬ it.k = key by omega)).resolve_right q
    · exact hp y (List.mem_append_left _ hy)
  · exact hp y (List.mem_append_right _ hy)
theorem put_right (hE : Ext A0 s.1) (h2 : IsT A0 a L) (hp : ∀ y ∈ L ++ R, beforeK it.k y.k = true) (hs : Srt (L ++ it :: R)) (q : ¬ beforeK key it.k = true) (q2 : it.k < key) (hl : (L ++ it :: R).length ≤ 1000) (hg : Gs (R.length + 1) s s1)
    (hi : s1.2 = 0 → IsT s1.1 r1 (putL R key v)) (hm : Mk s1 it.k it.v a r1 s2 r3) : Gs ((L ++ it :: R).length + 1) s s2 ∧ (s2.2 = 0 → IsT s2.1 r3 (putL (L ++ it :: R) key v)) := by
  have h2' := (hE.trans hg.ext).isT h2
  have g1 := hm.gs hg.ok (fun h => ⟨h2'.right, (hi h).right⟩)
  refine ⟨(hg.trans g1).mono (by simp only [List.length_append, List.length_cons]; omega), fun h => ?_⟩
  have i1 := hi (g1.back h)
  have hpl := putL_len (key := key) (v := v) hs.split.2.1
  simp only [List.length_append, List.length_cons] at hl
  have hsp : Srt (putL (L ++ it :: R) key v) := hs.put
  rw [putL_gt hs q2] at hsp ⊢
  refine hm.isT hg.ok h h2' i1 (by omega) (fun y hy => ?_) hsp
  rcases List.mem_append.1 hy with hy | hy
  · exact hp y (List.mem_append_left _ hy)
  · rcases putL_mem hy with rfl | hy
    · exact (befK_total (show ¬ it.k = key by omega)).resolve_right q
    · exact hp y (List.mem_append_right _ hy)
/-! ### take off -/
theorem del_left (hE : Ext A0 s.1) (h3 : IsT A0 b R) (hp : ∀ y ∈ L ++ R, beforeK it.k y.k = true) (hs : Srt (L ++ it :: R)) (q2 : key < it.k) (hl : (L ++ it :: R).length ≤ 1000) (hg : Gs (L.length - 1) s s1) (hL : 0 < L.length)
    (hi : s1.2 = 0 → IsT s1.1 r1 (delL L key)) (hm : Mk s1 it.k it.v r1 b s2 r3) : Gs ((L ++ it :: R).length - 1) s s2 ∧ (s2.2 = 0 → IsT s2.1 r3 (delL (L ++ it :: R) key)) := by
  have h3' := (hE.trans hg.ext).isT h3
  have g1 := hm.gs hg.ok (fun h => ⟨(hi h).right, h3'.right⟩)
  refine ⟨(hg.trans g1).mono (by simp only [List.length_append, List.length_cons]; omega), fun h => ?_⟩
  have i1 := hi (g1.back h)
  have hpl : (delL L key).length ≤ L.length := List.length_filter_le _ _
  simp only [List.length_append, List.length_cons] at hl
  have hsp : Srt (delL (L ++ it :: R) key) := hs.sub
  rw [delL_lt hs q2] at hsp ⊢
  refine hm.isT hg.ok h i1 h3' (by omega) (fun y hy => hp y ?_) hsp
  rcases List.mem_append.1 hy with hy | hy
  · exact List.mem_append_left _ (filter_sub hy)
  · exact List.mem_append_right _ hy
theorem del_right (hE : Ext A0 s.1) (h2 : IsT A0 a L) (hp : ∀ y ∈ L ++ R, beforeK it.k y.k = true) (hs : Srt (L ++ it :: R)) (q2 : it.k < key) (hl : (L ++ it :: R).length ≤ 1000) (hg : Gs (R.length - 1) s s1) (hR : 0 < R.length)
    (hi : s1.2 = 0 → IsT s1.1 r1 (delL R key)) (hm : Mk s1 it.k it.v a r1 s2 r3) : Gs ((L ++ it :: R).length - 1) s s2 ∧ (s2.2 = 0 → IsT s2.1 r3 (delL (L ++ it :: R) key)) := by
  have h2' := (hE.trans hg.ext).isT h2
  have g1 := hm.gs hg.ok (fun h => ⟨h2'.right, (hi h).right⟩)
  refine ⟨(hg.trans g1).mono (by simp only [List.length_append, List.length_cons]; omega), fun h => ?_⟩
  have i1 := hi (g1.back h)
  have hpl : (delL R key).length ≤ R.length := List.length_filter_le _ _
  simp only [List.length_append, List.length_cons] at hl
  have hsp : Srt (delL (L ++ it :: R) key) := hs.sub
  rw [delL_gt hs q2] at hsp ⊢
  refine hm.isT hg.ok h h2' i1 (by omega) (fun y hy => hp y ?_) hsp
  rcases List.mem_append.1 hy with hy | hy
  · exact List.mem_append_left _ hy
  · exact List.mem_append_right _ (filter_sub hy)
end
end Go.Proofs.Ytdmaogopibljoaa
