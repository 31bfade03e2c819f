/- Plain laws of the directories: a split and a merge of a good directory are good. No condition but those that stand in each. -/
import Derived.Test.YtaoiekcoiooghaaDr1
namespace Go.Proofs.Ytaoiekcoiooghaa
open Go.RowKit
theorem cut_at {L : List Sp} {i : Nat} {x : Sp} (h : L[i]? = some x) : L = L.take i ++ x :: L.drop (i + 1) := by
  obtain ⟨hi, hx⟩ := List.getElem?_eq_some_iff.1 h
  have e := (List.take_append_drop i L).symm
  rw [List.drop_eq_getElem_cons hi, hx] at e
  exact e
theorem set_range {F : List Int} {n : Nat} (hF : ∀ f ∈ F, -1 ≤ f ∧ f < (n : Int)) (k : Nat) (z : Int) (hz : -1 ≤ z ∧ z < (n : Int)) : ∀ f ∈ F.set k z, -1 ≤ f ∧ f < (n : Int) := by
  intro f hf
  rcases List.mem_or_eq_of_mem_set hf with h | rfl
  · exact hF f h
  · exact hz
theorem split_good {L : List Sp} {F : List Int} (h : GoodD L F) {i : Nat} {s : Sp} (hs : L[i]? = some s) {md tt : Int} (h1 : s.lo ≤ md) (h2 : md < s.hi) (ht : ∀ x ∈ L, x.sh ≠ tt) (ht0 : 0 ≤ tt) (ht1 : tt < (F.length : Int)) :
    GoodD ((L.take i ++ [⟨s.lo, md, s.sh⟩, ⟨md + 1, s.hi, tt⟩]) ++ L.drop (i + 1)) (F.set tt.toNat (-1)) := by
  have e := cut_at hs
  generalize L.take i = P at *
  generalize L.drop (i + 1) = Q at *
  subst e
  obtain ⟨c1, c2, c3, c4, c5, c6⟩ := h
  refine ⟨?_, ?_, ?_, by rw [List.length_set]; exact c4, by rw [List.length_set]; exact c5, ?_⟩
  · rw [chain_append] at c1
    obtain ⟨b, hP, q1, q2, q3⟩ := c1
    rw [chain_append, ]
    refine ⟨s.hi + 1, ?_, q3⟩
    rw [chain_append]
    refine ⟨b, hP, q1, h1, rfl, ?_, rfl⟩
    show md + 1 ≤ s.hi
    omega
  · have hsh : (List.map Sp.sh (P ++ [⟨s.lo, md, s.sh⟩, ⟨md + 1, s.hi, tt⟩] ++ Q)).Perm (tt :: List.map Sp.sh (P ++ s :: Q)) := by
      simp only [List.map_append, List.map_cons, List.append_assoc, List.cons_append, List.nil_append]
      exact (List.Perm.append_left _ (List.Perm.swap tt s.sh _)).trans List.perm_middle
    rw [hsh.nodup_iff, List.nodup_cons]
    refine ⟨fun hm => ?_, c2⟩
    obtain ⟨x, hx, hxt⟩ := List.mem_map.1 hm
    exact ht x hx hxt
  · intro x hx
    rw [List.length_set]
    simp only [List.mem_append, List.mem_cons, List.not_mem_nil, or_false] at hx
    rcases hx with (hx | rfl | rfl) | hx
    · exact c3 x (by simp [hx])
    · exact c3 s (by simp)
    · exact ⟨ht0, ht1⟩
    · exact c3 x (by simp [hx])
  · rw [List.length_set]
    exact set_range c6 _ _ (by omega)
theorem cut_two {L : List Sp} {i : Nat} {a b : Sp} (ha : L[i]? = some a) (hb : L[i + 1]? = some b) : L = L.take i ++ a :: b :: L.drop (i + 2) := by
  obtain ⟨hi, hx⟩ := List.getElem?_eq_some_iff.1 ha
  obtain ⟨hj, hy⟩ := List.getElem?_eq_some_iff.1 hb
  have e := (List.take_append_drop i L).symm
  rw [List.drop_eq_getElem_cons hi, hx, List.drop_eq_getElem_cons hj, hy] at e
  exact e
theorem merge_good {L : List Sp} {F : List Int} (h : GoodD L F) {i : Nat} {a b : Sp} (ha : L[i]? = some a) (hb : L[i + 1]? = some b) {fr tt : Int} (hab : (a.sh = fr ∧ b.sh = tt) ∨ (a.sh = tt ∧ b.sh = fr)) :
    GoodD ((L.take i ++ [⟨a.lo, b.hi, tt⟩]) ++ L.drop (i + 2)) (F.set fr.toNat tt) := by
  have e := cut_two ha hb
  generalize L.take i = P at *
  generalize L.drop (i + 2) = Q at *
  subst e
  obtain ⟨c1, c2, c3, c4, c5, c6⟩ := h
  have ca := c3 a (by simp)
  have cb := c3 b (by simp)
  have ctt : 0 ≤ tt ∧ tt < (F.length : Int) := by rcases hab with ⟨h1, h2⟩ | ⟨h1, h2⟩ <;> omega
  refine ⟨?_, ?_, ?_, by rw [List.length_set]; exact c4, by rw [List.length_set]; exact c5, ?_⟩
  · rw [chain_append] at c1
    obtain ⟨b0, hP, q1, q2, q3, q4, q5⟩ := c1
    rw [chain_append]
    refine ⟨b.hi + 1, ?_, q5⟩
    rw [chain_append]
    refine ⟨b0, hP, q1, ?_, rfl⟩
    show a.lo ≤ b.hi
    omega
  · simp only [List.map_append, List.map_cons, List.append_assoc, List.cons_append, List.nil_append] at c2 ⊢
    rcases hab with ⟨h1, h2⟩ | ⟨h1, h2⟩
    · rw [h2] at c2
      refine c2.sublist ?_
      exact List.Sublist.append_left (List.Sublist.cons _ (List.Sublist.refl _)) _
    · rw [h1] at c2
      refine c2.sublist ?_
      exact List.Sublist.append_left (List.Sublist.cons_cons _ (List.Sublist.cons _ (List.Sublist.refl _))) _
  · intro x hx
    rw [List.length_set]
    simp only [List.mem_append, List.mem_cons, List.not_mem_nil, or_false] at hx
    rcases hx with (hx | rfl) | hx
    · exact c3 x (by simp [hx])
    · exact ctt
    · exact c3 x (by simp [hx])
  · rw [List.length_set]
    exact set_range c6 _ _ (by omega)
end Go.Proofs.Ytaoiekcoiooghaa
