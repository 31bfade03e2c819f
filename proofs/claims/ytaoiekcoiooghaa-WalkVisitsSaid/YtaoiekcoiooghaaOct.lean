/- The contracts of the functions that write and read octets, of the program and of the reference. Conditions: a slice that comes in reads as a list of bytes, of at most 2^30 bytes where it is copied. -/
import Derived.Test.YtaoiekcoiooghaaDig
import Derived.Test.YtaoiekcoiooghaaByt
namespace Go.Proofs.Ytaoiekcoiooghaa
open Go.RowKit

set_option maxHeartbeats 400000 in
theorem put_ok (l : List UInt8) (B : Nat) (A : Option Addr) (len c : Nat) (N k : Nat) (w : World) (hr : Reads w B A len (bvs l)) (hn : len ≤ 1073741824) (hk1 : 1 ≤ k) (hk6 : k ≤ 6) (hN : N < 256 ^ k) :
    Calls Try.prog 39 #[.slice A len c, .int .i64 (N : Int), .int .i64 (k : Int)] w (RetB w (l ++ be N k) 0) := by
  have hlen : l.length = len := by have := hr.1; rwa [bvs_length] at this
  have hl : l.length ≤ 1073741824 := by omega
  have HL := hide hlen
  clear hlen
  have hlim : (N : Int) < wrap64 (2 ^ (8 * k)) := by rw [wrap_lim hk6]; omega
  go_enter Try.func39, Try.ntmps39
  go_wp2_with (first
    | (at_builtin; refine wpList_app rfl _ _ rfl (OwnB.nil w w.heap.size) rfl hr rfl (by simp only [List.length_nil]; omega) (Nat.le_refl _) ?_; intro v1 w1 hown1 hg1 hb1 hat1))
  go_loopw [8, 9] (fun v i wr => ∃ (j : Nat) (acc : List UInt8), j ≤ k ∧ i = .int .i64 ((j : Int) - 1) ∧ Hid (acc ++ be N j = be N k) ∧ OwnB wr w.heap.size v (l ++ acc) ∧ Below w.heap.size w wr) (fun _ i _ => (intOf i + 1).toNat)
  case atStart => exact ⟨k, [], Nat.le_refl _, rfl, rfl, by simpa using hown1, hb1⟩
  case round =>
    obtain ⟨j, acc, hj, rfl, HA, hown, hbl⟩ := hrel
    have hacc : acc.length ≤ 6 := by have := congrArg List.length HA.out; simp [be_length] at this; omega
    clear hown1 hg1 hb1 hat1 hlim
    rcases Nat.eq_zero_or_pos j with h0 | h0
    · obtain rfl : j = 0 := h0
      go_wp2
      go_ret2
      exact ⟨_, rfl, by have := HA.out; simp only [be, List.append_nil] at this; rw [← this]; exact hown, hbl⟩
    · obtain ⟨i, rfl⟩ : ∃ i, j = i + 1 := ⟨j - 1, by omega⟩
      have hsz := hbl.size
      go_wp2_with (first
        | (at_builtin; refine wpList_app rfl _ _ rfl (hown.alloc _) rfl (reads_lit1 wr _ (UInt8.ofNat (N / 256 ^ i)) (byte_of N i)) rfl (by simp only [List.length_append, List.length_cons, List.length_nil]; omega) (by simp; omega) ?_; intro v2 w2 hown2 hg2 hb2 hat2))
      go_roundw
      case rel => exact ⟨i, acc ++ [UInt8.ofNat (N / 256 ^ i)], by omega, rfl, by have := HA.out; simp only [be] at this; rw [← this, List.append_assoc]; rfl, by rw [← List.append_assoc]; exact hown2, (hbl.alloc hsz _).trans hb2⟩
      case measure => simp [intOf]

set_option maxHeartbeats 400000 in
theorem put_err (A : Option Addr) (len c : Nat) (n size : Int) (w : World) (h : ¬ (1 ≤ size ∧ size ≤ 6 ∧ 0 ≤ n ∧ n < ((256 ^ size.toNat : Nat) : Int))) :
    Calls Try.prog 39 #[.slice A len c, .int .i64 n, .int .i64 size] w fun e w' => e = .returned (.tuple #[.slice none 0 0, .int .i64 1]) ∧ w = w' := by
  by_cases h1 : 1 ≤ size ∧ size ≤ 6 ∧ 0 ≤ n
  · obtain ⟨k, rfl⟩ := Int.eq_ofNat_of_zero_le (show 0 ≤ size by omega)
    obtain ⟨h1, h2, h3⟩ := h1
    have hlim : wrap64 (2 ^ (8 * k)) ≤ n := by
      rw [wrap_lim (by omega)]
      rw [Int.toNat_natCast] at h
      generalize (256 ^ k : Nat) = z at *
      omega
    clear h
    go_enter Try.func39, Try.ntmps39
    go_wp2_with fail
    go_ret2
    exact ⟨rfl, rfl⟩
  · clear h
    go_enter Try.func39, Try.ntmps39
    go_wp2_with fail
    all_goals (go_ret2; exact ⟨rfl, rfl⟩)
set_option maxHeartbeats 400000 in
theorem rput_ok (l : List UInt8) (B : Nat) (A : Option Addr) (len c : Nat) (N k : Nat) (w : World) (hr : Reads w B A len (bvs l)) (hn : len ≤ 1073741824) (hk1 : 1 ≤ k) (hk6 : k ≤ 6) (hN : N < 256 ^ k) :
    Calls Try.prog 55 #[.slice A len c, .int .i64 (N : Int), .int .i64 (k : Int)] w (RetB w (l ++ be N k) 0) := by
  have hlen : l.length = len := by have := hr.1; rwa [bvs_length] at this
  have hl : l.length ≤ 1073741824 := by omega
  have HL := hide hlen
  clear hlen
  have hlim : (N : Int) < wrap64 (2 ^ (8 * k)) := by rw [wrap_lim hk6]; omega
  go_enter Try.func55, Try.ntmps55
  go_wp2_with (first
    | (at_builtin; refine wpList_app rfl _ _ rfl (OwnB.nil w w.heap.size) rfl hr rfl (by simp only [List.length_nil]; omega) (Nat.le_refl _) ?_; intro v1 w1 hown1 hg1 hb1 hat1))
  go_loopw [8, 9] (fun v i wr => ∃ (j : Nat) (acc : List UInt8), j ≤ k ∧ i = .int .i64 ((j : Int) - 1) ∧ Hid (acc ++ be N j = be N k) ∧ OwnB wr w.heap.size v (l ++ acc) ∧ Below w.heap.size w wr) (fun _ i _ => (intOf i + 1).toNat)
  case atStart => exact ⟨k, [], Nat.le_refl _, rfl, rfl, by simpa using hown1, hb1⟩
  case round =>
    obtain ⟨j, acc, hj, rfl, HA, hown, hbl⟩ := hrel
    have hacc : acc.length ≤ 6 := by have := congrArg List.length HA.out; simp [be_length] at this; omega
    clear hown1 hg1 hb1 hat1 hlim
    rcases Nat.eq_zero_or_pos j with h0 | h0
    · obtain rfl : j = 0 := h0
      go_wp2
      go_ret2
      exact ⟨_, rfl, by have := HA.out; simp only [be, List.append_nil] at this; rw [← this]; exact hown, hbl⟩
    · obtain ⟨i, rfl⟩ : ∃ i, j = i + 1 := ⟨j - 1, by omega⟩
      have hsz := hbl.size
      go_wp2_with (first
        | (at_builtin; refine wpList_app rfl _ _ rfl (hown.alloc _) rfl (reads_lit1 wr _ (UInt8.ofNat (N / 256 ^ i)) (byte_of N i)) rfl (by simp only [List.length_append, List.length_cons, List.length_nil]; omega) (by simp; omega) ?_; intro v2 w2 hown2 hg2 hb2 hat2))
      go_roundw
      case rel => exact ⟨i, acc ++ [UInt8.ofNat (N / 256 ^ i)], by omega, rfl, by have := HA.out; simp only [be] at this; rw [← this, List.append_assoc]; rfl, by rw [← List.append_assoc]; exact hown2, (hbl.alloc hsz _).trans hb2⟩
      case measure => simp [intOf]

set_option maxHeartbeats 400000 in
theorem rput_err (A : Option Addr) (len c : Nat) (n size : Int) (w : World) (h : ¬ (1 ≤ size ∧ size ≤ 6 ∧ 0 ≤ n ∧ n < ((256 ^ size.toNat : Nat) : Int))) :
    Calls Try.prog 55 #[.slice A len c, .int .i64 n, .int .i64 size] w fun e w' => e = .returned (.tuple #[.slice none 0 0, .int .i64 1]) ∧ w = w' := by
  by_cases h1 : 1 ≤ size ∧ size ≤ 6 ∧ 0 ≤ n
  · obtain ⟨k, rfl⟩ := Int.eq_ofNat_of_zero_le (show 0 ≤ size by omega)
    obtain ⟨h1, h2, h3⟩ := h1
    have hlim : wrap64 (2 ^ (8 * k)) ≤ n := by
      rw [wrap_lim (by omega)]
      rw [Int.toNat_natCast] at h
      generalize (256 ^ k : Nat) = z at *
      omega
    clear h
    go_enter Try.func55, Try.ntmps55
    go_wp2_with fail
    go_ret2
    exact ⟨rfl, rfl⟩
  · clear h
    go_enter Try.func55, Try.ntmps55
    go_wp2_with fail
    all_goals (go_ret2; exact ⟨rfl, rfl⟩)

set_option maxHeartbeats 400000 in
theorem get_ok (l : List UInt8) (B : Nat) (A : Option Addr) (len c : Nat) (a k : Nat) (w : World) (hr : Reads w B A len (bvs l)) (hc : len ≤ c) (hcm : c ≤ maxLen) (hk1 : 1 ≤ k) (hk6 : k ≤ 6) (ha : a + k ≤ len) :
    Calls Try.prog 56 #[.slice A len c, .int .i64 (a : Int), .int .i64 (k : Int)] w fun e w' => e = .returned (.tuple #[.int .i64 (beVal ((l.drop a).take k) : Nat), .int .i64 0]) ∧ w = w' := by
  unfold maxLen at hcm
  have hln : l.length = len := by have := hr.1; rwa [bvs_length] at this
  obtain ⟨b, o, rfl, _, hcell⟩ := hr.at_ (k := 0) (by omega)
  have HL := hide hln
  have HC := hide hcell
  clear hln hr hcell
  go_enter Try.func56, Try.ntmps56
  go_wp2_with fail
  go_loop [8, 40] (fun n i => ∃ j : Nat, j ≤ k ∧ i = .int .i64 j ∧ n = .int .i64 (beVal ((l.drop a).take j) : Nat)) (fun _ i => k - (intOf i).toNat)
  case atStart => exact ⟨0, Nat.zero_le _, rfl, rfl⟩
  case round =>
    obtain ⟨j, hj, rfl, rfl⟩ := hrel
    by_cases hlt : j < k
    · have hb := beVal_take_lt (l := l.drop a) (k := j) (by omega)
      have hl : a + j < l.length := by rw [HL.out]; omega
      have hd : j < (l.drop a).length := by rw [List.length_drop]; omega
      have HF := hide (beVal_take (l.drop a) j hd)
      have hce := HC.out (a + j) _ (bvs_get l (a + j) hl)
      rw [← Nat.add_assoc] at hce
      have hx := (l[a + j]).toNat_lt
      have HX : Hid ((l.drop a)[j] = l[a + j]) := hide (by rw [List.getElem_drop])
      go_wp2
      go_round
      case rel => exact ⟨j + 1, by omega, by go_num, by rw [HF.out, HX.out]; exact int_eq (or_byte64 _ _ hb)⟩
      case measure => simp [intOf]; omega
    · go_wp2
      go_ret2
      exact ⟨ret_two (int_eq (by rw [show j = k by omega])) rfl, rfl⟩

set_option maxHeartbeats 400000 in
theorem get_range (A : Option Addr) (len c : Nat) (a k : Int) (w : World) (h : ¬ (1 ≤ k ∧ k ≤ 6 ∧ 0 ≤ a)) :
    Calls Try.prog 56 #[.slice A len c, .int .i64 a, .int .i64 k] w fun e w' => e = .returned (.tuple #[.int .i64 0, .int .i64 1]) ∧ w = w' := by
  go_enter Try.func56, Try.ntmps56
  go_wp2_with fail
  all_goals (go_ret2; exact ⟨rfl, rfl⟩)
set_option maxHeartbeats 400000 in
theorem get_syntax (A : Option Addr) (len c : Nat) (a k : Int) (w : World) (_hc : len ≤ maxLen) (ha1 : a ≤ 9223372036854775807) (h1 : 1 ≤ k) (h2 : k ≤ 6) (h3 : 0 ≤ a) (h4 : (len : Int) < a + k) :
    Calls Try.prog 56 #[.slice A len c, .int .i64 a, .int .i64 k] w fun e w' => e = .returned (.tuple #[.int .i64 0, .int .i64 8]) ∧ w = w' := by
  unfold maxLen at _hc
  go_enter Try.func56, Try.ntmps56
  go_wp2_with fail
  all_goals (go_ret2; exact ⟨rfl, rfl⟩)
set_option maxHeartbeats 400000 in
theorem rget_ok (l : List UInt8) (B : Nat) (A : Option Addr) (len c : Nat) (a k : Nat) (w : World) (hr : Reads w B A len (bvs l)) (hc : len ≤ c) (hcm : c ≤ maxLen) (hk1 : 1 ≤ k) (hk6 : k ≤ 6) (ha : a + k ≤ len) :
    Calls Try.prog 57 #[.slice A len c, .int .i64 (a : Int), .int .i64 (k : Int)] w fun e w' => e = .returned (.tuple #[.int .i64 (beVal ((l.drop a).take k) : Nat), .int .i64 0]) ∧ w = w' := by
  unfold maxLen at hcm
  have hln : l.length = len := by have := hr.1; rwa [bvs_length] at this
  obtain ⟨b, o, rfl, _, hcell⟩ := hr.at_ (k := 0) (by omega)
  have HL := hide hln
  have HC := hide hcell
  clear hln hr hcell
  go_enter Try.func57, Try.ntmps57
  go_wp2_with fail
  go_loop [8, 9] (fun n i => ∃ j : Nat, j ≤ k ∧ i = .int .i64 j ∧ n = .int .i64 (beVal ((l.drop a).take j) : Nat)) (fun _ i => k - (intOf i).toNat)
  case atStart => exact ⟨0, Nat.zero_le _, rfl, rfl⟩
  case round =>
    obtain ⟨j, hj, rfl, rfl⟩ := hrel
    by_cases hlt : j < k
    · have hb := beVal_take_lt (l := l.drop a) (k := j) (by omega)
      have hl : a + j < l.length := by rw [HL.out]; omega
      have hd : j < (l.drop a).length := by rw [List.length_drop]; omega
      have HF := hide (beVal_take (l.drop a) j hd)
      have hce := HC.out (a + j) _ (bvs_get l (a + j) hl)
      have hx := (l[a + j]).toNat_lt
      have HX : Hid ((l.drop a)[j] = l[a + j]) := hide (by rw [List.getElem_drop])
      go_wp2
      go_round
      case rel => exact ⟨j + 1, by omega, by go_num, by rw [HF.out, HX.out]; exact int_eq (or_byte64 _ _ hb)⟩
      case measure => simp [intOf]; omega
    · go_wp2
      go_ret2
      exact ⟨ret_two (int_eq (by rw [show j = k by omega])) rfl, rfl⟩

set_option maxHeartbeats 400000 in
theorem rget_range (A : Option Addr) (len c : Nat) (a k : Int) (w : World) (h : ¬ (1 ≤ k ∧ k ≤ 6 ∧ 0 ≤ a)) :
    Calls Try.prog 57 #[.slice A len c, .int .i64 a, .int .i64 k] w fun e w' => e = .returned (.tuple #[.int .i64 0, .int .i64 1]) ∧ w = w' := by
  go_enter Try.func57, Try.ntmps57
  go_wp2_with fail
  all_goals (go_ret2; exact ⟨rfl, rfl⟩)
set_option maxHeartbeats 400000 in
theorem rget_syntax (A : Option Addr) (len c : Nat) (a k : Int) (w : World) (_hc : len ≤ maxLen) (ha1 : a ≤ 9223372036854775807) (h1 : 1 ≤ k) (h2 : k ≤ 6) (h3 : 0 ≤ a) (h4 : (len : Int) < a + k) :
    Calls Try.prog 57 #[.slice A len c, .int .i64 a, .int .i64 k] w fun e w' => e = .returned (.tuple #[.int .i64 0, .int .i64 8]) ∧ w = w' := by
  unfold maxLen at _hc
  go_enter Try.func57, Try.ntmps57
  go_wp2_with fail
  all_goals (go_ret2; exact ⟨rfl, rfl⟩)


theorem same_any (l m : List UInt8) (B B' : Nat) (A A' : Option Addr) (n n' c c' : Nat) (w : World) (hr : Reads w B A n (bvs l)) (hr' : Reads w B' A' n' (bvs m)) :
    Calls Try.prog 47 #[.slice A n c, .slice A' n' c'] w fun e w' => e = .returned (.bool (decide (l = m))) ∧ w = w' := by
  have h1 := run_conv_str (c := c) hr
  have h2 := run_conv_str (c := c') hr'
  have h3 := bstr_beq l m
  clear hr hr'
  go_enter Try.func47, Try.ntmps47
  go_wp2
  go_ret
  exact ⟨rfl, rfl⟩

set_option maxHeartbeats 400000 in
set_option maxRecDepth 20000 in
theorem putvar_ok (l : List UInt8) (B : Nat) (A : Option Addr) (len c : Nat) (N : Nat) (w : World) (hr : Reads w B A len (bvs l)) (hn : len ≤ 1073741824) (hN : N ≤ 1099511627776) :
    Calls Try.prog 51 #[.slice A len c, .int .i64 (N : Int)] w (RetB w (l ++ grp 5 N) 0) := by
  have hlen : l.length = len := by have := hr.1; rwa [bvs_length] at this
  have hl : l.length ≤ 1073741824 := by omega
  have HL := hide hlen
  have hN' : (N : Int) ≤ 1099511627776 := by omega
  have HN := hide hN
  clear hlen hN
  go_enter Try.func51, Try.ntmps51
  go_wp2_with (first
    | (at_builtin; refine wpList_app rfl _ _ rfl (OwnB.nil w w.heap.size) rfl hr rfl (by simp only [List.length_nil]; omega) (Nat.le_refl _) ?_; intro v1 w1 hown1 hg1 hb1 hat1))
  go_loopw [6, 1] (fun v i wr => ∃ (f M : Nat) (acc : List UInt8), i = .int .i64 (M : Int) ∧ In128 f M ∧ M ≤ N ∧ Hid (acc ++ grp f M = grp 5 N) ∧ OwnB wr w.heap.size v (l ++ acc) ∧ Below w.heap.size w wr) (fun _ i _ => (intOf i).toNat)
  case atStart => exact ⟨5, N, [], rfl, in128 HN.out, Nat.le_refl _, rfl, by simpa using hown1, hb1⟩
  case round =>
    obtain ⟨f, M, acc, rfl, hM, hMN, HA, hown, hbl⟩ := hrel
    have hacc : acc.length ≤ 6 := by have h1 := congrArg List.length HA.out; have h2 := grp_length 5 N; simp at h1; omega
    clear hown1 hg1 hb1 hat1
    have hsz := hbl.size
    by_cases hlt : M < 128
    · have HG := hide (grp_small f M hlt)
      go_wp2_with (first
        | (at_builtin; refine wpList_app rfl _ _ rfl (hown.alloc _) rfl (reads_lit1 wr _ (UInt8.ofNat M) (byte_small hlt)) rfl (by simp only [List.length_append, List.length_cons, List.length_nil]; omega) (by simp; omega) ?_; intro v2 w2 hown2 hg2 hb2 hat2))
      go_ret2
      exact ⟨_, rfl, by rw [← HA.out, HG.out, ← List.append_assoc]; exact hown2, (hbl.alloc hsz _).trans hb2⟩
    · obtain ⟨g, rfl, hg⟩ := in128_step hM (by omega)
      have HG := hide (grp_big g M (by omega))
      go_wp2_with (first
        | (at_builtin; refine wpList_app rfl _ _ rfl (hown.alloc _) rfl (reads_lit1 wr _ (UInt8.ofNat (M % 128 + 128)) (or128_u8 M)) rfl (by simp only [List.length_append, List.length_cons, List.length_nil]; omega) (by simp; omega) ?_; intro v2 w2 hown2 hg2 hb2 hat2))
      go_roundw
      case rel => exact ⟨g, M / 128, acc ++ [UInt8.ofNat (M % 128 + 128)], by go_num, hg, by omega, by rw [← HA.out, HG.out, List.append_assoc]; rfl, by rw [← List.append_assoc]; exact hown2, (hbl.alloc hsz _).trans hb2⟩
      case measure => simp [intOf]; omega
set_option maxHeartbeats 400000 in
theorem putvar_err (A : Option Addr) (len c : Nat) (n : Int) (w : World) (h : n < 0 ∨ 1099511627776 < n) :
    Calls Try.prog 51 #[.slice A len c, .int .i64 n] w fun e w' => e = .returned (.tuple #[.slice none 0 0, .int .i64 1]) ∧ w = w' := by
  go_enter Try.func51, Try.ntmps51
  go_wp2_with fail
  all_goals (go_ret2; exact ⟨rfl, rfl⟩)
set_option maxHeartbeats 400000 in
set_option maxRecDepth 20000 in
theorem rputvar_ok (l : List UInt8) (B : Nat) (A : Option Addr) (len c : Nat) (N : Nat) (w : World) (hr : Reads w B A len (bvs l)) (hn : len ≤ 1073741824) (hN : N ≤ 1099511627776) :
    Calls Try.prog 52 #[.slice A len c, .int .i64 (N : Int)] w (RetB w (l ++ grp 5 N) 0) := by
  have hlen : l.length = len := by have := hr.1; rwa [bvs_length] at this
  have hl : l.length ≤ 1073741824 := by omega
  have HL := hide hlen
  have hN' : (N : Int) ≤ 1099511627776 := by omega
  have HN := hide hN
  clear hlen hN
  go_enter Try.func52, Try.ntmps52
  go_wp2_with (first
    | (at_builtin; refine wpList_app rfl _ _ rfl (OwnB.nil w w.heap.size) rfl hr rfl (by simp only [List.length_nil]; omega) (Nat.le_refl _) ?_; intro v1 w1 hown1 hg1 hb1 hat1))
  go_loopw [6, 1] (fun v i wr => ∃ (f M : Nat) (acc : List UInt8), i = .int .i64 (M : Int) ∧ In128 f M ∧ M ≤ N ∧ Hid (acc ++ grp f M = grp 5 N) ∧ OwnB wr w.heap.size v (l ++ acc) ∧ Below w.heap.size w wr) (fun _ i _ => (intOf i).toNat)
  case atStart => exact ⟨5, N, [], rfl, in128 HN.out, Nat.le_refl _, rfl, by simpa using hown1, hb1⟩
  case round =>
    obtain ⟨f, M, acc, rfl, hM, hMN, HA, hown, hbl⟩ := hrel
    have hacc : acc.length ≤ 6 := by have h1 := congrArg List.length HA.out; have h2 := grp_length 5 N; simp at h1; omega
    clear hown1 hg1 hb1 hat1
    have hsz := hbl.size
    by_cases hlt : M < 128
    · have HG := hide (grp_small f M hlt)
      go_wp2_with (first
        | (at_builtin; refine wpList_app rfl _ _ rfl (hown.alloc _) rfl (reads_lit1 wr _ (UInt8.ofNat M) (byte_small hlt)) rfl (by simp only [List.length_append, List.length_cons, List.length_nil]; omega) (by simp; omega) ?_; intro v2 w2 hown2 hg2 hb2 hat2))
      go_ret2
      exact ⟨_, rfl, by rw [← HA.out, HG.out, ← List.append_assoc]; exact hown2, (hbl.alloc hsz _).trans hb2⟩
    · obtain ⟨g, rfl, hg⟩ := in128_step hM (by omega)
      have HG := hide (grp_big g M (by omega))
      go_wp2_with (first
        | (at_builtin; refine wpList_app rfl _ _ rfl (hown.alloc _) rfl (reads_lit1 wr _ (UInt8.ofNat (M % 128 + 128)) (or128_i64 M)) rfl (by simp only [List.length_append, List.length_cons, List.length_nil]; omega) (by simp; omega) ?_; intro v2 w2 hown2 hg2 hb2 hat2))
      go_roundw
      case rel => exact ⟨g, M / 128, acc ++ [UInt8.ofNat (M % 128 + 128)], by go_num, hg, by omega, by rw [← HA.out, HG.out, List.append_assoc]; rfl, by rw [← List.append_assoc]; exact hown2, (hbl.alloc hsz _).trans hb2⟩
      case measure => simp [intOf]; omega
set_option maxHeartbeats 400000 in
theorem rputvar_err (A : Option Addr) (len c : Nat) (n : Int) (w : World) (h : n < 0 ∨ 1099511627776 < n) :
    Calls Try.prog 52 #[.slice A len c, .int .i64 n] w fun e w' => e = .returned (.tuple #[.slice none 0 0, .int .i64 1]) ∧ w = w' := by
  go_enter Try.func52, Try.ntmps52
  go_wp2_with fail
  all_goals (go_ret2; exact ⟨rfl, rfl⟩)

end Go.Proofs.Ytaoiekcoiooghaa
