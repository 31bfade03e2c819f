/- Plain laws of the messages' bytes: what is written is read back, and what is read is what was written. Conditions: the ranges that stand in each. -/
import Derived.Test.YtaoiekcoiooghaaLaw
namespace Go.Proofs.Ytaoiekcoiooghaa

theorem gv_app : ∀ (f i m : Nat) (l r : List UInt8) (p : Nat × Nat), gv f i m l = some p → gv f i m (l ++ r) = some p := by
  intro f
  induction f with
  | zero => intro i m l r p h; rw [gv_zero] at h; cases h
  | succ f ih =>
    intro i m l r p h
    cases l with
    | nil => rw [gv_nil] at h; cases h
    | cons x t =>
      rw [List.cons_append]
      by_cases hbig : 128 ≤ x.toNat
      · rw [gv_more hbig] at h ⊢
        exact ih _ _ _ _ _ h
      · by_cases hbad : (0 < i ∧ x.toNat = 0) ∨ 1099511627776 < m + x.toNat % 128 * 128 ^ i
        · rw [gv_bad (by omega) hbad] at h; cases h
        · rw [gv_good (by omega) hbad] at h ⊢
          exact h
theorem gv_len {l : List UInt8} {n k : Nat} (h : gv 6 0 0 l = some (n, k)) : grp 5 n = l.take k ∧ k ≤ l.length ∧ n ≤ 1099511627776 ∧ 1 ≤ k := by
  obtain ⟨N, j, h1, h2, h3, h4, h5, h6, h7, h8⟩ := gv_grp 6 0 0 l n k h
  have e1 : n = N := by rw [h1]; simp
  have e2 : k = j := by omega
  subst e1 e2
  exact ⟨h8 5 (by omega), h5, h7, h3⟩
/-- Reading k numbers in groups from the beginning: the numbers, and the place behind them. -/
def dec (l : List UInt8) : Nat → Option (List Nat × Nat)
  | 0 => some ([], 0)
  | k + 1 => match dec l k with
    | none => none
    | some (xs, a) => match gv 6 0 0 (l.drop a) with
      | none => none
      | some (n, j) => some (xs ++ [n], a + j)
theorem dec_zero (l : List UInt8) : dec l 0 = some ([], 0) := rfl
theorem dec_succ_none {l : List UInt8} {k : Nat} {xs : List Nat} {a : Nat} (h : dec l k = some (xs, a)) (hg : gv 6 0 0 (l.drop a) = none) : dec l (k + 1) = none := by rw [dec, h]; simp only [hg]
theorem dec_succ_some {l : List UInt8} {k : Nat} {xs : List Nat} {a n j : Nat} (h : dec l k = some (xs, a)) (hg : gv 6 0 0 (l.drop a) = some (n, j)) : dec l (k + 1) = some (xs ++ [n], a + j) := by rw [dec, h]; simp only [hg]
theorem dec_up {l : List UInt8} {k : Nat} (h : dec l k = none) (j : Nat) : dec l (k + j) = none := by
  induction j with
  | zero => exact h
  | succ j ih => rw [← Nat.add_assoc, dec, ih]
theorem dec_inv {l : List UInt8} {k : Nat} {xs : List Nat} {a : Nat} (h : dec l (k + 1) = some (xs, a)) :
    ∃ ys b n j, dec l k = some (ys, b) ∧ gv 6 0 0 (l.drop b) = some (n, j) ∧ xs = ys ++ [n] ∧ a = b + j := by
  rw [dec] at h
  cases h1 : dec l k with
  | none => rw [h1] at h; cases h
  | some p =>
    obtain ⟨ys, b⟩ := p
    rw [h1] at h
    cases h2 : gv 6 0 0 (l.drop b) with
    | none => simp only [h2] at h; cases h
    | some q =>
      obtain ⟨n, j⟩ := q
      simp only [h2] at h
      injection h with h
      injection h with h3 h4
      exact ⟨ys, b, n, j, rfl, h2, h3.symm, h4.symm⟩
/-- Numbers in groups, one after the other. -/
def encN (xs : List Nat) : List UInt8 := (xs.map (grp 5)).flatten
theorem encN_snoc (xs : List Nat) (n : Nat) : encN (xs ++ [n]) = encN xs ++ grp 5 n := by simp [encN]
theorem dec_enc {l : List UInt8} : ∀ {k : Nat} {xs : List Nat} {a : Nat}, dec l k = some (xs, a) → l.take a = encN xs ∧ a ≤ l.length ∧ xs.length = k ∧ ∀ n ∈ xs, n ≤ 1099511627776 := by
  intro k
  induction k with
  | zero =>
    intro xs a h
    rw [dec_zero] at h
    injection h with h
    injection h with h1 h2
    subst h1 h2
    simp [encN]
  | succ k ih =>
    intro xs a h
    obtain ⟨ys, b, n, j, h1, h2, rfl, rfl⟩ := dec_inv h
    obtain ⟨i1, i2, i3, i4⟩ := ih h1
    obtain ⟨g1, g2, g3, _⟩ := gv_len h2
    rw [List.length_drop] at g2
    refine ⟨?_, by omega, by simp [i3], ?_⟩
    · rw [encN_snoc, ← i1, g1, List.take_add]
    · intro m hm
      rw [List.mem_append, List.mem_singleton] at hm
      rcases hm with hm | rfl
      · exact i4 _ hm
      · exact g3
theorem dec_app {l : List UInt8} (r : List UInt8) : ∀ {k : Nat} {xs : List Nat} {a : Nat}, dec l k = some (xs, a) → dec (l ++ r) k = some (xs, a) := by
  intro k
  induction k with
  | zero => intro xs a h; exact h
  | succ k ih =>
    intro xs a h
    obtain ⟨ys, b, n, j, h1, h2, rfl, rfl⟩ := dec_inv h
    have hb := (dec_enc h1).2.1
    refine dec_succ_some (ih h1) ?_
    rw [List.drop_append_of_le_length hb]
    exact gv_app _ _ _ _ _ _ h2
theorem dec_back (r : List UInt8) : ∀ (xs : List Nat), (∀ n ∈ xs, n ≤ 1099511627776) → dec (encN xs ++ r) xs.length = some (xs, (encN xs).length) := by
  suffices H : ∀ (k : Nat) (xs : List Nat), xs.length = k → (∀ n ∈ xs, n ≤ 1099511627776) → ∀ r, dec (encN xs ++ r) k = some (xs, (encN xs).length) from fun xs h => H _ xs rfl h r
  intro k
  induction k with
  | zero =>
    intro xs hx _ r
    obtain rfl := List.eq_nil_of_length_eq_zero hx
    rfl
  | succ k ih =>
    intro xs hx hn r
    rcases List.eq_nil_or_concat xs with rfl | ⟨ys, n, rfl⟩
    · simp at hx
    · rw [List.concat_eq_append] at hx hn ⊢
      rw [encN_snoc, List.append_assoc]
      have h1 := ih ys (by simpa using hx) (fun m hm => hn m (List.mem_append_left _ hm)) (grp 5 n ++ r)
      rw [List.length_append]
      refine dec_succ_some h1 ?_
      rw [List.drop_left]
      exact gv_back (hn n (by simp)) r

/-- The bytes of a message. -/
def encM (xs : List Nat) (s : List UInt8) : List UInt8 := encN xs ++ txt s
theorem gtR_ok {l : List UInt8} {a most : Nat} {s : List UInt8} {n : Int} (h : gtR l a most = (s, n, 0)) : n = ((a + 1 + s.length : Nat) : Int) ∧ s.length ≤ most ∧ l.drop a = txt s ++ l.drop (a + 1 + s.length) ∧ a < l.length := by
  unfold gtR at h
  rcases Nat.lt_or_ge a l.length with ha | ha
  · rw [List.drop_eq_getElem_cons ha] at h ⊢
    simp only at h
    split at h
    · injection h with _ h; injection h with _ h; cases h
    · split at h
      · injection h with _ h; injection h with _ h; cases h
      · rename_i h1 h2
        injection h with h3 h4
        injection h4 with h4 _
        have hl : s.length = (l[a]).toNat := by rw [← h3, List.length_take]; omega
        refine ⟨by rw [← h4, hl], by omega, ?_, ha⟩
        rw [txt, hl, UInt8.ofNat_toNat, List.cons_append]
        congr 1
        have e : List.drop (a + 1 + (l[a]).toNat) l = List.drop (l[a]).toNat (List.drop (a + 1) l) := by rw [List.drop_drop]
        rw [← h3, e, List.take_append_drop]
  · rw [List.drop_eq_nil_of_le ha] at h
    simp only at h
    injection h with _ h; injection h with _ h; cases h
theorem gtR_cases (l : List UInt8) (a most : Nat) : ∃ s n c, gtR l a most = (s, n, c) := ⟨_, _, _, rfl⟩
theorem txt_length (s : List UInt8) : (txt s).length = s.length + 1 := rfl
theorem gtR_end (p s : List UInt8) (h : s.length ≤ 16) : gtR (p ++ txt s) p.length 16 = (s, ((p.length + 1 + s.length : Nat) : Int), 0) := by
  have e : (UInt8.ofNat s.length).toNat = s.length := by rw [UInt8.toNat_ofNat']; omega
  unfold gtR txt
  rw [List.drop_left]
  simp only [e]
  rw [if_neg (by omega), if_neg (by omega)]
  simp
/-- A message's text is no proper beginning of another message's text. -/
theorem encM_prefix {xs ys : List Nat} {s t r : List UInt8} (hl : xs.length = ys.length) (hx : ∀ n ∈ xs, n ≤ 1099511627776) (hy : ∀ n ∈ ys, n ≤ 1099511627776) (hs : s.length ≤ 16) (ht : t.length ≤ 16) (h : encM xs s = encM ys t ++ r) : xs = ys ∧ s = t ∧ r = [] := by
  have h1 := dec_back (txt s) xs hx
  have h2 := dec_back (txt t ++ r) ys hy
  unfold encM at h
  rw [List.append_assoc] at h
  rw [h, hl, h2] at h1
  injection h1 with h1
  injection h1 with e1 e2
  subst e1
  have h3 := List.append_cancel_left h
  unfold txt at h3
  rw [List.cons_append] at h3
  injection h3 with h4 h5
  have h6 : s.length = t.length := by
    have := congrArg UInt8.toNat h4
    rw [UInt8.toNat_ofNat', UInt8.toNat_ofNat'] at this
    omega
  have h7 : r = [] := by
    have := congrArg List.length h5
    rw [List.length_append] at this
    exact List.eq_nil_of_length_eq_zero (by omega)
  subst h7
  exact ⟨rfl, by simpa using h5, rfl⟩
end Go.Proofs.Ytaoiekcoiooghaa
