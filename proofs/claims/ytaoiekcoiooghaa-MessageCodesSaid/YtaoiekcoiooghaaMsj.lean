/- The plain laws of the messages' bytes, in the words of the contracts: what is written is read back; what is read is what was written; no proper beginning can be read. Conditions: the ranges that stand in each. -/
import Derived.Test.YtaoiekcoiooghaaMsd
namespace Go.Proofs.Ytaoiekcoiooghaa
open Go.RowKit
theorem decR_encM {x0 x1 x2 x3 x4 x5 : Nat} {s : List UInt8} (hx : ∀ n ∈ [x0, x1, x2, x3, x4, x5], n ≤ 1099511627776) (hs : s.length ≤ 16) : decR (encM [x0, x1, x2, x3, x4, x5] s) = some ([x0, x1, x2, x3, x4, x5], s) := by
  have h1 := dec_back (txt s) [x0, x1, x2, x3, x4, x5] hx
  have h2 := gtR_end (encN [x0, x1, x2, x3, x4, x5]) s hs
  refine decR_good h1 h2 rfl ?_
  simp [encM, txt_length]
  omega
theorem decR_back {l : List UInt8} {xs : List Nat} {s : List UInt8} (h : decR l = some (xs, s)) : l = encM xs s ∧ s.length ≤ 16 ∧ xs.length = 6 ∧ ∀ n ∈ xs, n ≤ 1099511627776 := by
  unfold decR at h
  cases hd : dec l 6 with
  | none => rw [hd] at h; cases h
  | some p =>
    obtain ⟨ys, a⟩ := p
    rw [hd] at h
    simp only at h
    split at h
    · rename_i hc
      injection h with h
      injection h with h1 h2
      subst h1 h2
      obtain ⟨t, nx, c, hg⟩ := gtR_cases l a 16
      rw [hg] at hc ⊢
      obtain ⟨rfl, hn⟩ := hc
      obtain ⟨e1, e2, e3, e4⟩ := gtR_ok hg
      obtain ⟨d1, d2, d3, d4⟩ := dec_enc hd
      simp only at hn ⊢
      have e5 : l.drop (a + 1 + t.length) = [] := List.drop_eq_nil_of_le (by omega)
      rw [e5, List.append_nil] at e3
      refine ⟨?_, e2, d3, d4⟩
      rw [encM, ← d1, ← e3, List.take_append_drop]
    · cases h
theorem six_of {xs : List Nat} (h : xs.length = 6) : ∃ x0 x1 x2 x3 x4 x5, xs = [x0, x1, x2, x3, x4, x5] := by
  match xs, h with
  | [x0, x1, x2, x3, x4, x5], _ => exact ⟨_, _, _, _, _, _, rfl⟩
theorem bstr_ext (s : ByteArray) : bstr s.data.toList = s := bstr_self s
/-- What Encode writes, Decode reads. -/
theorem dec_meL {x0 x1 x2 x3 x4 x5 : Int} {s : ByteArray} (h : mvE x0 x1 x2 x3 x4 x5 s.size = 0) :
    decV (meL x0 x1 x2 x3 x4 x5 s) = .agg #[.int .i64 x0, .int .i64 x1, .int .i64 x2, .int .i64 x3, .int .i64 x4, .int .i64 x5, .string s] ∧ decE (meL x0 x1 x2 x3 x4 x5 s) = 0 := by
  obtain ⟨h1, h2, h3, h4, h5, h6, h7, h8, h9, h10, h11, h12, h13⟩ := mvE_ok h
  have hs : s.data.toList.length ≤ 16 := by rw [data_length]; omega
  have hr := decR_encM (x0 := x0.toNat) (x1 := x1.toNat) (x2 := x2.toNat) (x3 := x3.toNat) (x4 := x4.toNat) (x5 := x5.toNat) (s := s.data.toList) (by simp only [List.mem_cons, List.not_mem_nil, or_false]; omega) hs
  obtain ⟨p1, p2⟩ := dec_pass hr
  have e0 : (x0.toNat : Int) = x0 := by omega
  have e1 : (x1.toNat : Int) = x1 := by omega
  have e2 : (x2.toNat : Int) = x2 := by omega
  have e3 : (x3.toNat : Int) = x3 := by omega
  have e4 : (x4.toNat : Int) = x4 := by omega
  have e5 : (x5.toNat : Int) = x5 := by omega
  rw [e0, e1, e2, e3, e4, e5, data_length] at p1 p2
  rw [meL, if_pos h, p1, p2, if_pos h, bstr_ext]
  exact ⟨rfl, h⟩
/-- What Decode reads, Encode writes. -/
theorem meL_dec {l : List UInt8} (h : decE l = 0) : ∃ (y0 y1 y2 y3 y4 y5 : Int) (t : ByteArray), decV l = .agg #[.int .i64 y0, .int .i64 y1, .int .i64 y2, .int .i64 y3, .int .i64 y4, .int .i64 y5, .string t] ∧ mvE y0 y1 y2 y3 y4 y5 t.size = 0 ∧ meL y0 y1 y2 y3 y4 y5 t = l ∧
    ∃ (n0 n1 n2 n3 n4 n5 : Nat), l = encM [n0, n1, n2, n3, n4, n5] t.data.toList ∧ t.data.toList.length ≤ 16 ∧ ∀ n ∈ [n0, n1, n2, n3, n4, n5], n ≤ 1099511627776 := by
  cases hr : decR l with
  | none => rw [(dec_fail hr).2] at h; cases h
  | some p =>
    obtain ⟨xs, s⟩ := p
    obtain ⟨b1, b2, b3, b4⟩ := decR_back hr
    obtain ⟨x0, x1, x2, x3, x4, x5, rfl⟩ := six_of b3
    obtain ⟨p1, p2⟩ := dec_pass hr
    rw [p2] at h
    rw [if_pos h] at p1
    refine ⟨_, _, _, _, _, _, _, p1, ?_, ?_, x0, x1, x2, x3, x4, x5, b1, b2, b4⟩
    · rw [bstr_size]; exact h
    · rw [meL, if_pos (by rw [bstr_size]; exact h)]
      simp only [Int.toNat_natCast, bstr_data]
      exact b1.symm
theorem meL_length {x0 x1 x2 x3 x4 x5 : Int} {s : ByteArray} (h : mvE x0 x1 x2 x3 x4 x5 s.size = 0) : 1 ≤ (meL x0 x1 x2 x3 x4 x5 s).length ∧ (meL x0 x1 x2 x3 x4 x5 s).length ≤ 60 := by
  obtain ⟨h1, h2, h3, h4, h5, h6, h7, h8, h9, h10, h11, h12, h13⟩ := mvE_ok h
  have hs : s.data.toList.length ≤ 16 := by rw [data_length]; omega
  have g0 := (grp_length 5 x0.toNat).2
  have g1 := (grp_length 5 x1.toNat).2
  have g2 := (grp_length 5 x2.toNat).2
  have g3 := (grp_length 5 x3.toNat).2
  have g4 := (grp_length 5 x4.toNat).2
  have g5 := (grp_length 5 x5.toNat).2
  rw [meL, if_pos h]
  simp only [encM, encN, List.map_cons, List.map_nil, List.flatten_cons, List.flatten_nil, List.append_nil, List.length_append, txt_length]
  omega
/-- No proper beginning can be read. -/
theorem dec_take {x0 x1 x2 x3 x4 x5 : Int} {s : ByteArray} (h : mvE x0 x1 x2 x3 x4 x5 s.size = 0) {k : Nat} (hk : k < (meL x0 x1 x2 x3 x4 x5 s).length) : decE ((meL x0 x1 x2 x3 x4 x5 s).take k) ≠ 0 := by
  intro h0
  obtain ⟨_, _, _, _, _, _, t, _, _, _, n0, n1, n2, n3, n4, n5, e, ht, hn⟩ := meL_dec h0
  obtain ⟨h1, h2, h3, h4, h5, h6, h7, h8, h9, h10, h11, h12, h13⟩ := mvE_ok h
  have hs : s.data.toList.length ≤ 16 := by rw [data_length]; omega
  have e2 : meL x0 x1 x2 x3 x4 x5 s = encM [x0.toNat, x1.toNat, x2.toNat, x3.toNat, x4.toNat, x5.toNat] s.data.toList := by rw [meL, if_pos h]
  have e3 : encM [x0.toNat, x1.toNat, x2.toNat, x3.toNat, x4.toNat, x5.toNat] s.data.toList = encM [n0, n1, n2, n3, n4, n5] t.data.toList ++ (meL x0 x1 x2 x3 x4 x5 s).drop k := by
    rw [← e, List.take_append_drop, e2]
  obtain ⟨_, _, hr⟩ := encM_prefix (xs := [x0.toNat, x1.toNat, x2.toNat, x3.toNat, x4.toNat, x5.toNat]) (ys := [n0, n1, n2, n3, n4, n5]) rfl (by simp only [List.mem_cons, List.not_mem_nil, or_false]; omega) hn hs ht e3
  have := congrArg List.length hr
  rw [List.length_drop, List.length_nil] at this
  omega
theorem decV_agg (l : List UInt8) : ∃ (d0 d1 d2 d3 d4 d5 : Int) (sd : ByteArray), decV l = .agg #[.int .i64 d0, .int .i64 d1, .int .i64 d2, .int .i64 d3, .int .i64 d4, .int .i64 d5, .string sd] := by
  unfold decV
  split
  · split
    · exact ⟨_, _, _, _, _, _, _, rfl⟩
    · exact ⟨_, _, _, _, _, _, _, rfl⟩
  · exact ⟨_, _, _, _, _, _, _, rfl⟩
theorem into_all {r : Int} (_h : 0 ≤ r ∧ r < 65536) : 0 ≤ into r 0 65535 ∧ into r 0 65535 ≤ 65535 := by
  unfold into
  have := into_mod r 0 65535 (by decide)
  (repeat' split) <;> omega
end Go.Proofs.Ytaoiekcoiooghaa
