/- The plain laws of the octets: what is written is read back, and a form of groups that is read is the one that is written. No condition but the ranges that stand in each. -/
import Derived.Test.YtaoiekcoiooghaaPlain
namespace Go.Proofs.Ytaoiekcoiooghaa

/-- A form of groups that is read is the one that is written. -/
theorem gv_grp : ∀ (f i m : Nat) (l : List UInt8) (n k : Nat), gv f i m l = some (n, k) →
    ∃ N j, n = m + N * 128 ^ i ∧ k = i + j ∧ 1 ≤ j ∧ j ≤ f ∧ j ≤ l.length ∧ (0 < i → 1 ≤ N) ∧ n ≤ 1099511627776 ∧ ∀ f', j ≤ f' + 1 → grp f' N = l.take j := by
  intro f
  induction f with
  | zero => intro i m l n k h; rw [gv_zero] at h; cases h
  | succ f ih =>
    intro i m l n k h
    cases l with
    | nil => rw [gv_nil] at h; cases h
    | cons x r =>
      have hx := x.toNat_lt
      by_cases hbig : 128 ≤ x.toNat
      · rw [gv_more hbig] at h
        obtain ⟨N, j, h1, h2, h3, h4, h5, h6, h7, h8⟩ := ih _ _ _ _ _ h
        have hN := h6 (by omega)
        refine ⟨x.toNat % 128 + N * 128, j + 1, ?_, by omega, by omega, by omega, by simp; omega, fun _ => by omega, h7, ?_⟩
        · rw [h1, Nat.pow_succ, Nat.add_mul]
          rw [show N * (128 ^ i * 128) = N * 128 * 128 ^ i by rw [Nat.mul_comm (128 ^ i) 128, Nat.mul_assoc]]
          omega
        · intro f' hf
          obtain ⟨g, rfl⟩ : ∃ g, f' = g + 1 := ⟨f' - 1, by omega⟩
          rw [grp_big g _ (by omega), List.take_succ_cons, show (x.toNat % 128 + N * 128) / 128 = N by omega, h8 g (by omega)]
          congr 1
          apply UInt8.toNat_inj.1
          rw [UInt8.toNat_ofNat']
          omega
      · by_cases hbad : (0 < i ∧ x.toNat = 0) ∨ 1099511627776 < m + x.toNat % 128 * 128 ^ i
        · rw [gv_bad (by omega) hbad] at h; cases h
        · rw [gv_good (by omega) hbad] at h
          injection h with h
          injection h with h1 h2
          refine ⟨x.toNat, 1, ?_, by omega, by omega, by omega, by simp, fun hi => ?_, by omega, ?_⟩
          · rw [← h1, show x.toNat % 128 = x.toNat by omega]
          · omega
          · intro f' _
            rw [grp_small f' _ (by omega)]
            simp
/-- What is written in groups is read back, whatever follows. -/
theorem grp_gv : ∀ (f i m N : Nat) (r : List UInt8), N < 128 ^ (f + 1) → (0 < i → 1 ≤ N) → m + N * 128 ^ i ≤ 1099511627776 →
    gv (f + 1) i m (grp f N ++ r) = some (m + N * 128 ^ i, i + (grp f N).length) := by
  intro f
  induction f with
  | zero =>
    intro i m N r h0 h1 h2
    simp at h0
    have e : (UInt8.ofNat N).toNat = N := by rw [UInt8.toNat_ofNat']; omega
    rw [grp_small 0 N h0, List.singleton_append, gv_good (by omega) (by rw [e, show N % 128 = N by omega]; intro hb; rcases hb with hb | hb <;> omega)]
    rw [e, show N % 128 = N by omega]
    simp
  | succ f ih =>
    intro i m N r h0 h1 h2
    by_cases hN : N < 128
    · have e : (UInt8.ofNat N).toNat = N := by rw [UInt8.toNat_ofNat']; omega
      rw [grp_small (f + 1) N hN, List.singleton_append, gv_good (by omega) (by rw [e, show N % 128 = N by omega]; intro hb; rcases hb with hb | hb <;> omega)]
      rw [e, show N % 128 = N by omega]
      simp
    · have e : (UInt8.ofNat (N % 128 + 128)).toNat = N % 128 + 128 := by rw [UInt8.toNat_ofNat']; omega
      have es : N % 128 * 128 ^ i + N / 128 * 128 ^ (i + 1) = N * 128 ^ i := by
        rw [Nat.pow_succ, show N / 128 * (128 ^ i * 128) = N / 128 * 128 * 128 ^ i by rw [Nat.mul_comm (128 ^ i) 128, Nat.mul_assoc], ← Nat.add_mul]
        congr 1
        omega
      rw [grp_big f N (by omega), List.cons_append, gv_more (by omega), e, show (N % 128 + 128) % 128 = N % 128 by omega]
      rw [ih (i + 1) (m + N % 128 * 128 ^ i) (N / 128) r (by rw [Nat.pow_succ] at h0; exact Nat.div_lt_of_lt_mul (by omega)) (fun _ => by omega) (by omega)]
      rw [List.length_cons]
      congr 2
      · omega
      · omega
theorem gv_back {N : Nat} (h : N ≤ 1099511627776) (r : List UInt8) : gv 6 0 0 (grp 5 N ++ r) = some (N, (grp 5 N).length) := by
  have := grp_gv 5 0 0 N r (lt128 h) (fun h => by omega) (by simp; omega)
  simpa using this
theorem gtR_back (p s r : List UInt8) (h : s.length ≤ 255) : gtR (p ++ (txt s ++ r)) p.length 255 = (s, ((p.length + 1 + s.length : Nat) : Int), 0) := by
  unfold gtR txt
  have e : (UInt8.ofNat s.length).toNat = s.length := by rw [UInt8.toNat_ofNat']; omega
  rw [List.drop_left, List.cons_append]
  simp only [e]
  rw [if_neg (by omega), if_neg (by simp)]
  simp
theorem be_val (N k : Nat) (h : N < 256 ^ k) : beVal (be N k) = N := by
  have key : ∀ (k m N : Nat), (be N k).foldl (fun n x => n * 256 + x.toNat) m = m * 256 ^ k + N % 256 ^ k := by
    intro k
    induction k with
    | zero => intro m N; simp [be, Nat.mod_one]
    | succ k ih =>
      intro m N
      rw [be, List.foldl_cons, ih, UInt8.toNat_ofNat', show (256 : Nat) ^ (k + 1) = 256 ^ k * 256 from Nat.pow_succ ..]
      have hq : N % (256 ^ k * 256) = N % 256 ^ k + 256 ^ k * (N / 256 ^ k % 256) := Nat.mod_mul
      rw [hq, Nat.add_mul, show (2:Nat) ^ 8 = 256 by decide, show m * 256 * 256 ^ k = m * (256 ^ k * 256) by rw [Nat.mul_assoc, Nat.mul_comm 256 (256 ^ k)], Nat.mul_comm (N / 256 ^ k % 256) (256 ^ k)]
      omega
  have := key k 0 N
  unfold beVal
  rw [this, Nat.mod_eq_of_lt h]
  omega
theorem be_full : be 255 1 = [255] ∧ be 65535 2 = [255, 255] ∧ be 16777215 3 = [255, 255, 255] ∧ be 4294967295 4 = [255, 255, 255, 255] := by decide +kernel
end Go.Proofs.Ytaoiekcoiooghaa
