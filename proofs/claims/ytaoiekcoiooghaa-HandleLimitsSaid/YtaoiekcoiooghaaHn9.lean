/- Plain laws of the receipt handles: a text in which one byte is changed is no text of a handle; different handles have different texts. No condition. -/
import Derived.Test.YtaoiekcoiooghaaHn8
namespace Go.Proofs.Ytaoiekcoiooghaa
open Go.RowKit
theorem tok_take (i g r h : Nat) : (tok i g r h).take 12 = tok5 i g r h := by
  rw [tok, List.take_append_of_le_length (by rw [tok5_length]; exact Nat.le_refl _), List.take_of_length_le (by rw [tok5_length]; exact Nat.le_refl _)]
theorem tok_drop (i g r h : Nat) : (tok i g r h).drop 12 = be (fcheck (tok5 i g r h)) 4 := by
  rw [tok, List.drop_append, List.drop_eq_nil_of_le (by rw [tok5_length]; exact Nat.le_refl _), tok5_length]
  rfl
theorem be4_inj {a b : Nat} (ha : a < 4294967296) (hb : b < 4294967296) (h : be a 4 = be b 4) : a = b := by
  have p4 : (256 : Nat) ^ 4 = 4294967296 := by decide
  have h1 := be_val a 4 (by rw [p4]; exact ha)
  have h2 := be_val b 4 (by rw [p4]; exact hb)
  rw [← h1, ← h2, h]
/-- A handle's text in which one byte is changed is refused. -/
theorem tok_forged (i g r h k : Nat) (hk : k < (tok i g r h).length) (y : UInt8) (hy : y ≠ (tok i g r h)[k]) : ¬ ParOk ((tok i g r h).set k y) := by
  rintro ⟨_, _, ht⟩
  generalize pF0 ((tok i g r h).set k y) = p0 at ht
  generalize pF1 ((tok i g r h).set k y) = p1 at ht
  generalize pF2 ((tok i g r h).set k y) = p2 at ht
  generalize pF3 ((tok i g r h).set k y) = p3 at ht
  have t1 := tok_take p0 p1 p2 p3
  have t2 := tok_drop p0 p1 p2 p3
  rw [← t1, ht] at t2
  rw [List.take_set, List.drop_set, tok_take, tok_drop] at t2
  have hlen := tok_length i g r h
  by_cases h12 : k < 12
  · rw [if_pos h12] at t2
    have e := be4_inj (fcheck_lt _) (fcheck_lt _) t2
    have hk5 : k < (tok5 i g r h).length := by rw [tok5_length]; exact h12
    refine fcheck_change (tok5 i g r h) k hk5 y ?_ e.symm
    intro hy2
    apply hy
    rw [hy2]
    simp only [tok]
    rw [List.getElem_append_left hk5]
  · rw [if_neg h12] at t2
    rw [List.set_eq_of_length_le (l := tok5 i g r h) (by rw [tok5_length]; omega)] at t2
    refine set_ne hk hy ?_
    have e1 : (tok i g r h).set k y = ((tok i g r h).set k y).take 12 ++ ((tok i g r h).set k y).drop 12 := (List.take_append_drop 12 _).symm
    rw [e1, List.take_set, List.drop_set, if_neg h12, tok_take, tok_drop, t2, List.set_eq_of_length_le (l := tok5 i g r h) (by rw [tok5_length]; omega)]
    rfl
theorem tok_inj {i g r h i' g' r' h' : Int} (hk : HOk i g r h) (hk' : HOk i' g' r' h') :
    decide (tok i.toNat g.toNat r.toNat h.toNat = tok i'.toNat g'.toNat r'.toNat h'.toNat) = ((((decide (i = i')) && (decide (g = g'))) && (decide (r = r'))) && (decide (h = h'))) := by
  obtain ⟨h1, h2, h3, h4, h5, h6, h7, h8⟩ := hk
  obtain ⟨k1, k2, k3, k4, k5, k6, k7, k8⟩ := hk'
  obtain ⟨p0, p1, p2, p3⟩ := pF_tok (i := i.toNat) (g := g.toNat) (r := r.toNat) (h := h.toNat) (by omega) (by omega) (by omega) (by omega)
  obtain ⟨q0, q1, q2, q3⟩ := pF_tok (i := i'.toNat) (g := g'.toNat) (r := r'.toNat) (h := h'.toNat) (by omega) (by omega) (by omega) (by omega)
  rw [Bool.eq_iff_iff]
  simp only [Bool.and_eq_true, decide_eq_true_eq]
  constructor
  · intro e
    rw [e] at p0 p1 p2 p3
    omega
  · rintro ⟨⟨⟨rfl, rfl⟩, rfl⟩, rfl⟩
    rfl
end Go.Proofs.Ytaoiekcoiooghaa
