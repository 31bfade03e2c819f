/- What Decode of the messages returns, in plain words, and what Encode writes. No condition but the ranges that stand in each. -/
import Derived.Test.YtaoiekcoiooghaaMs2
namespace Go.Proofs.Ytaoiekcoiooghaa
open Go.RowKit
/-- The numbers and the text, if the bytes have the form. -/
def decR (l : List UInt8) : Option (List Nat × List UInt8) :=
  match dec l 6 with
  | none => none
  | some (xs, a) => if (gtR l a 16).2.2 = 0 ∧ (gtR l a 16).2.1 = (l.length : Int) then some (xs, (gtR l a 16).1) else none
/-- What Decode returns beside the error. -/
def decV (l : List UInt8) : Value :=
  match decR l with
  | some ([x0, x1, x2, x3, x4, x5], s) => if mvE x0 x1 x2 x3 x4 x5 s.length = 0 then .agg #[.int .i64 x0, .int .i64 x1, .int .i64 x2, .int .i64 x3, .int .i64 x4, .int .i64 x5, .string (bstr s)] else mZ
  | _ => mZ
/-- The error of Decode. -/
def decE (l : List UInt8) : Int :=
  match decR l with
  | some ([x0, x1, x2, x3, x4, x5], s) => mvE x0 x1 x2 x3 x4 x5 s.length
  | _ => 8
theorem decR_none {l : List UInt8} (h : dec l 6 = none) : decR l = none := by rw [decR, h]
theorem decR_bad {l : List UInt8} {xs : List Nat} {a : Nat} {s : List UInt8} {nx c : Int} (h : dec l 6 = some (xs, a)) (hg : gtR l a 16 = (s, nx, c)) (hb : ¬ (c = 0 ∧ nx = (l.length : Int))) : decR l = none := by
  rw [decR, h]
  simp only [hg]
  rw [if_neg hb]
theorem decR_good {l : List UInt8} {xs : List Nat} {a : Nat} {s : List UInt8} {nx c : Int} (h : dec l 6 = some (xs, a)) (hg : gtR l a 16 = (s, nx, c)) (hc : c = 0) (hn : nx = (l.length : Int)) : decR l = some (xs, s) := by
  rw [decR, h]
  simp only [hg]
  rw [if_pos ⟨hc, hn⟩]
theorem dec_fail {l : List UInt8} (h : decR l = none) : decV l = mZ ∧ decE l = 8 := by rw [decV, decE, h]; exact ⟨rfl, rfl⟩
theorem dec_pass {l : List UInt8} {x0 x1 x2 x3 x4 x5 : Nat} {s : List UInt8} (h : decR l = some ([x0, x1, x2, x3, x4, x5], s)) :
    decV l = (if mvE x0 x1 x2 x3 x4 x5 s.length = 0 then .agg #[.int .i64 x0, .int .i64 x1, .int .i64 x2, .int .i64 x3, .int .i64 x4, .int .i64 x5, .string (bstr s)] else mZ) ∧ decE l = mvE x0 x1 x2 x3 x4 x5 s.length := by
  rw [decV, decE, h]
  exact ⟨rfl, rfl⟩
/-- What Encode writes. -/
def meL (x0 x1 x2 x3 x4 x5 : Int) (s : ByteArray) : List UInt8 := if mvE x0 x1 x2 x3 x4 x5 s.size = 0 then encM [x0.toNat, x1.toNat, x2.toNat, x3.toNat, x4.toNat, x5.toNat] s.data.toList else []
theorem meL_err {x0 x1 x2 x3 x4 x5 : Int} {s : ByteArray} (h : ¬ mvE x0 x1 x2 x3 x4 x5 s.size = 0) : meL x0 x1 x2 x3 x4 x5 s = [] := by rw [meL, if_neg h]
theorem pv_yes {l : List UInt8} {x : Int} (h0 : 0 ≤ x) (h1 : x ≤ 1099511627776) : pvL l x = l ++ grp 5 x.toNat ∧ pvE x = 0 ∧ (pvL l x).length ≤ l.length + 6 := by
  rw [pvL, if_pos ⟨h0, h1⟩, pvE, if_pos ⟨h0, h1⟩]
  have := (grp_length 5 x.toNat).2
  refine ⟨rfl, rfl, by rw [List.length_append]; omega⟩
theorem enc_parts {x0 x1 x2 x3 x4 x5 : Int} {s : ByteArray} (h : mvE x0 x1 x2 x3 x4 x5 s.size = 0) : ∃ T1 T2 T3 T4 T5 T6 : List UInt8, pvL [] x0 = T1 ∧ pvE x0 = 0 ∧ pvL T1 x1 = T2 ∧ pvE x1 = 0 ∧ pvL T2 x2 = T3 ∧ pvE x2 = 0 ∧ pvL T3 x3 = T4 ∧ pvE x3 = 0 ∧ pvL T4 x4 = T5 ∧ pvE x4 = 0 ∧ pvL T5 x5 = T6 ∧ pvE x5 = 0 ∧
    ptL T6 s.data.toList 16 = meL x0 x1 x2 x3 x4 x5 s ∧ ptE s.data.toList 16 = 0 ∧ T1.length ≤ 6 ∧ T2.length ≤ 12 ∧ T3.length ≤ 18 ∧ T4.length ≤ 24 ∧ T5.length ≤ 30 ∧ T6.length ≤ 36 := by
  obtain ⟨h1, h2, h3, h4, h5, h6, h7, h8, h9, h10, h11, h12, h13⟩ := mvE_ok h
  have p0 := fun l => pv_yes (l := l) (show 0 ≤ x0 by omega) (show x0 ≤ 1099511627776 by omega)
  have p1 := fun l => pv_yes (l := l) (show 0 ≤ x1 by omega) (show x1 ≤ 1099511627776 by omega)
  have p2 := fun l => pv_yes (l := l) (show 0 ≤ x2 by omega) (show x2 ≤ 1099511627776 by omega)
  have p3 := fun l => pv_yes (l := l) (show 0 ≤ x3 by omega) (show x3 ≤ 1099511627776 by omega)
  have p4 := fun l => pv_yes (l := l) (show 0 ≤ x4 by omega) (show x4 ≤ 1099511627776 by omega)
  have p5 := fun l => pv_yes (l := l) (show 0 ≤ x5 by omega) (show x5 ≤ 1099511627776 by omega)
  have hl : (s.data.toList.length : Int) ≤ 16 := by rw [data_length]; exact h13
  refine ⟨_, _, _, _, _, _, rfl, (p0 []).2.1, rfl, (p1 []).2.1, rfl, (p2 []).2.1, rfl, (p3 []).2.1, rfl, (p4 []).2.1, rfl, (p5 []).2.1, ?_, ?_, ?_, ?_, ?_, ?_, ?_, ?_⟩
  · rw [ptL, if_pos ⟨by decide, by decide, hl⟩, meL, if_pos h, (p5 _).1, (p4 _).1, (p3 _).1, (p2 _).1, (p1 _).1, (p0 _).1]
    simp [encM, encN]
  · rw [ptE, if_pos ⟨by decide, by decide⟩, if_pos hl]
  · have a0 := (p0 []).2.2; simp only [List.length_nil] at a0; omega
  · have a0 := (p0 []).2.2; have a1 := (p1 (pvL [] x0)).2.2; simp only [List.length_nil] at a0; omega
  · have a0 := (p0 []).2.2; have a1 := (p1 (pvL [] x0)).2.2; have a2 := (p2 (pvL (pvL [] x0) x1)).2.2; simp only [List.length_nil] at a0; omega
  · have a0 := (p0 []).2.2; have a1 := (p1 (pvL [] x0)).2.2; have a2 := (p2 (pvL (pvL [] x0) x1)).2.2; have a3 := (p3 (pvL (pvL (pvL [] x0) x1) x2)).2.2; simp only [List.length_nil] at a0; omega
  · have a0 := (p0 []).2.2; have a1 := (p1 (pvL [] x0)).2.2; have a2 := (p2 (pvL (pvL [] x0) x1)).2.2; have a3 := (p3 (pvL (pvL (pvL [] x0) x1) x2)).2.2; have a4 := (p4 (pvL (pvL (pvL (pvL [] x0) x1) x2) x3)).2.2; simp only [List.length_nil] at a0; omega
  · have a0 := (p0 []).2.2; have a1 := (p1 (pvL [] x0)).2.2; have a2 := (p2 (pvL (pvL [] x0) x1)).2.2; have a3 := (p3 (pvL (pvL (pvL [] x0) x1) x2)).2.2; have a4 := (p4 (pvL (pvL (pvL (pvL [] x0) x1) x2) x3)).2.2; have a5 := (p5 (pvL (pvL (pvL (pvL (pvL [] x0) x1) x2) x3) x4)).2.2; simp only [List.length_nil] at a0; omega
end Go.Proofs.Ytaoiekcoiooghaa
