/- The contracts of GetVar, of the program and of the reference. Condition: the slice reads as a list of bytes. -/
import Derived.Test.YtaoiekcoiooghaaOct
namespace Go.Proofs.Ytaoiekcoiooghaa
open Go.RowKit
set_option maxHeartbeats 1000000 in
set_option maxRecDepth 20000 in
theorem getvar_any (l : List UInt8) (B : Nat) (A : Option Addr) (len c : Nat) (a : Nat) (w : World) (hr : Reads w B A len (bvs l)) (hcm : len ≤ maxLen) (ha : a ≤ 9223372036854775807) :
    Calls Try.prog 53 #[.slice A len c, .int .i64 (a : Int)] w fun e w' => e = .returned (.tuple #[.int .i64 (gvR l a).1, .int .i64 (gvR l a).2.1, .int .i64 (gvR l a).2.2]) ∧ w = w' := by
  unfold maxLen at hcm
  have hln : l.length = len := by have := hr.1; rwa [bvs_length] at this
  have HL := hide hln
  clear hln
  go_enter Try.func53, Try.ntmps53
  go_wp2_with fail
  go_loop [4, 11] (fun n i => ∃ k m : Nat, k ≤ 6 ∧ i = .int .i64 k ∧ n = .int .i64 m ∧ Lt128 k m ∧ Hid (gv (6 - k) k m (l.drop (a + k)) = gv 6 0 0 (l.drop a))) (fun _ i => 6 - (intOf i).toNat)
  case atStart => exact ⟨0, 0, by omega, rfl, rfl, lt128_zero, rfl⟩
  case round =>
    obtain ⟨k, m, hk, rfl, rfl, hm, HG⟩ := hrel
    by_cases hlt : k < 6
    · by_cases hin : a + k < len
      · obtain ⟨b, o, rfl, _, hc⟩ := hr.at_ hin
        have hl : a + k < l.length := by rw [HL.out]; exact hin
        have hcell := hc (a + k) _ (bvs_get l (a + k) hl)
        have HD : Hid (l.drop (a + k) = l[a + k] :: l.drop (a + k + 1)) := hide (List.drop_eq_getElem_cons hl)
        generalize l[a + k] = x at *
        have hx := x.toNat_lt
        clear hr hc
        have HS : Hid (6 - k = (5 - k) + 1) := hide (by omega)
        have hor := lt128_or x (by omega) hm
        have hm' := lt128_step x.toNat hm
        have HM := hide hm
        have hgm := @gv_more (5 - k) k m x (l.drop (a + k + 1))
        have hgb := @gv_bad (5 - k) k m x (l.drop (a + k + 1))
        have hgg := @gv_good (5 - k) k m x (l.drop (a + k + 1))
        rw [← HS.out, ← HD.out] at hgm hgb hgg
        rw [HG.out] at hgm hgb hgg
        generalize m + x.toNat % 128 * 128 ^ k = v at *
        clear hm
        by_cases hbig : 128 ≤ x.toNat
        · have ht := and128_big hbig
          have HE := hide (hgm hbig)
          clear hgm hgb hgg
          go_wp2_with fail
          go_round
          case rel => exact ⟨k + 1, v, by omega, by go_num, rfl, hm', by rw [HE.out, show 6 - (k + 1) = 5 - k by omega]; rfl⟩
          case measure => simp [intOf]; omega
        · have ht := and128_small (x := x) (by omega)
          by_cases hbad : (0 < k ∧ x.toNat = 0) ∨ 1099511627776 < v
          · have HE := hide (gvR_none (hgb (by omega) hbad))
            clear hgm hgb hgg
            by_cases h0 : 0 < k ∧ x.toNat = 0
            · obtain ⟨h0, h1⟩ := h0
              have h2 : ((x.toNat : Int) == 0) = true := by rw [beq_iff_eq]; omega
              clear h1 hbad
              go_wp2_with fail
              all_goals (go_ret3; exact ⟨ret_three (int_eq (by rw [HE.out])) (int_eq (by rw [HE.out])) (int_eq (by rw [HE.out])), rfl⟩)
            · have h1 : (1099511627776 : Int) < (v : Int) := by omega
              clear hbad
              go_wp2_with fail
              all_goals (go_ret3; exact ⟨ret_three (int_eq (by rw [HE.out])) (int_eq (by rw [HE.out])) (int_eq (by rw [HE.out])), rfl⟩)
          · have HE := hide (gvR_some (hgg (by omega) hbad))
            clear hgm hgb hgg
            have h1 : (v : Int) ≤ (1099511627776 : Int) := by omega
            have hak : a + k ≤ 9223372036854775806 := by omega
            have h0 : k ≤ 0 ∨ 0 < x.toNat := by omega
            clear hbad
            rcases h0 with h0 | h0
            · go_wp2_with fail
              all_goals (go_ret3; exact ⟨ret_three (int_eq (by rw [HE.out])) (int_eq (by rw [HE.out]; simp; omega)) (int_eq (by rw [HE.out])), rfl⟩)
            · have h2 : ((x.toNat : Int) == 0) = false := by rw [beq_eq_false_iff_ne]; omega
              go_wp2_with fail
              all_goals (go_ret3; exact ⟨ret_three (int_eq (by rw [HE.out])) (int_eq (by rw [HE.out]; simp; omega)) (int_eq (by rw [HE.out])), rfl⟩)
      · have HE : Hid (gvR l a = (0, 0, 8)) := hide (gvR_none (by rw [← HG.out, List.drop_eq_nil_of_le (by rw [HL.out]; omega), gv_nil]))
        by_cases hla : len ≤ a
        all_goals go_wp2_with fail
        all_goals (go_ret3; exact ⟨ret_three (int_eq (by rw [HE.out])) (int_eq (by rw [HE.out])) (int_eq (by rw [HE.out])), rfl⟩)
    · have HE : Hid (gvR l a = (0, 0, 8)) := hide (gvR_none (by rw [← HG.out, show 6 - k = 0 by omega, gv_zero]))
      go_wp2_with fail
      all_goals (go_ret3; exact ⟨ret_three (int_eq (by rw [HE.out])) (int_eq (by rw [HE.out])) (int_eq (by rw [HE.out])), rfl⟩)
set_option maxHeartbeats 400000 in
theorem getvar_neg (A : Option Addr) (len c : Nat) (a : Int) (w : World) (h : a < 0) :
    Calls Try.prog 53 #[.slice A len c, .int .i64 a] w fun e w' => e = .returned (.tuple #[.int .i64 0, .int .i64 0, .int .i64 1]) ∧ w = w' := by
  go_enter Try.func53, Try.ntmps53
  go_wp2_with fail
  all_goals (go_ret3; exact ⟨rfl, rfl⟩)
set_option maxHeartbeats 1000000 in
set_option maxRecDepth 20000 in
theorem rgetvar_any (l : List UInt8) (B : Nat) (A : Option Addr) (len c : Nat) (a : Nat) (w : World) (hr : Reads w B A len (bvs l)) (hcm : len ≤ maxLen) (ha : a ≤ 9223372036854775807) :
    Calls Try.prog 54 #[.slice A len c, .int .i64 (a : Int)] w fun e w' => e = .returned (.tuple #[.int .i64 (gvR l a).1, .int .i64 (gvR l a).2.1, .int .i64 (gvR l a).2.2]) ∧ w = w' := by
  unfold maxLen at hcm
  have hln : l.length = len := by have := hr.1; rwa [bvs_length] at this
  have HL := hide hln
  clear hln
  go_enter Try.func54, Try.ntmps54
  go_wp2_with fail
  go_loop [7, 8] (fun n i => ∃ k m : Nat, k ≤ 6 ∧ i = .int .i64 k ∧ n = .int .i64 m ∧ Lt128 k m ∧ Hid (gv (6 - k) k m (l.drop (a + k)) = gv 6 0 0 (l.drop a))) (fun _ i => 6 - (intOf i).toNat)
  case atStart => exact ⟨0, 0, by omega, rfl, rfl, lt128_zero, rfl⟩
  case round =>
    obtain ⟨k, m, hk, rfl, rfl, hm, HG⟩ := hrel
    by_cases hlt : k < 6
    · by_cases hin : a + k < len
      · obtain ⟨b, o, rfl, _, hc⟩ := hr.at_ hin
        have hl : a + k < l.length := by rw [HL.out]; exact hin
        have hcell := hc (a + k) _ (bvs_get l (a + k) hl)
        have HD : Hid (l.drop (a + k) = l[a + k] :: l.drop (a + k + 1)) := hide (List.drop_eq_getElem_cons hl)
        generalize l[a + k] = x at *
        have hx := x.toNat_lt
        clear hr hc
        have HS : Hid (6 - k = (5 - k) + 1) := hide (by omega)
        have hor := lt128_or' x (by omega) hm
        have hm' := lt128_step x.toNat hm
        have HM := hide hm
        have hgm := @gv_more (5 - k) k m x (l.drop (a + k + 1))
        have hgb := @gv_bad (5 - k) k m x (l.drop (a + k + 1))
        have hgg := @gv_good (5 - k) k m x (l.drop (a + k + 1))
        rw [← HS.out, ← HD.out] at hgm hgb hgg
        rw [HG.out] at hgm hgb hgg
        generalize m + x.toNat % 128 * 128 ^ k = v at *
        clear hm
        by_cases hbig : 128 ≤ x.toNat
        · have ht := and128_big hbig
          have HE := hide (hgm hbig)
          clear hgm hgb hgg
          go_wp2_with fail
          go_round
          case rel => exact ⟨k + 1, v, by omega, by go_num, rfl, hm', by rw [HE.out, show 6 - (k + 1) = 5 - k by omega]; rfl⟩
          case measure => simp [intOf]; omega
        · have ht := and128_small (x := x) (by omega)
          by_cases hbad : (0 < k ∧ x.toNat = 0) ∨ 1099511627776 < v
          · have HE := hide (gvR_none (hgb (by omega) hbad))
            clear hgm hgb hgg
            by_cases h0 : 0 < k ∧ x.toNat = 0
            · obtain ⟨h0, h1⟩ := h0
              have h2 : ((x.toNat : Int) == 0) = true := by rw [beq_iff_eq]; omega
              clear h1 hbad
              go_wp2_with fail
              all_goals (go_ret3; exact ⟨ret_three (int_eq (by rw [HE.out])) (int_eq (by rw [HE.out])) (int_eq (by rw [HE.out])), rfl⟩)
            · have h1 : (1099511627776 : Int) < (v : Int) := by omega
              clear hbad
              go_wp2_with fail
              all_goals (go_ret3; exact ⟨ret_three (int_eq (by rw [HE.out])) (int_eq (by rw [HE.out])) (int_eq (by rw [HE.out])), rfl⟩)
          · have HE := hide (gvR_some (hgg (by omega) hbad))
            clear hgm hgb hgg
            have h1 : (v : Int) ≤ (1099511627776 : Int) := by omega
            have hak : a + k ≤ 9223372036854775806 := by omega
            have h0 : k ≤ 0 ∨ 0 < x.toNat := by omega
            clear hbad
            rcases h0 with h0 | h0
            · go_wp2_with fail
              all_goals (go_ret3; exact ⟨ret_three (int_eq (by rw [HE.out])) (int_eq (by rw [HE.out]; simp; omega)) (int_eq (by rw [HE.out])), rfl⟩)
            · have h2 : ((x.toNat : Int) == 0) = false := by rw [beq_eq_false_iff_ne]; omega
              go_wp2_with fail
              all_goals (go_ret3; exact ⟨ret_three (int_eq (by rw [HE.out])) (int_eq (by rw [HE.out]; simp; omega)) (int_eq (by rw [HE.out])), rfl⟩)
      · have HE : Hid (gvR l a = (0, 0, 8)) := hide (gvR_none (by rw [← HG.out, List.drop_eq_nil_of_le (by rw [HL.out]; omega), gv_nil]))
        by_cases hla : len ≤ a
        all_goals go_wp2_with fail
        all_goals (go_ret3; exact ⟨ret_three (int_eq (by rw [HE.out])) (int_eq (by rw [HE.out])) (int_eq (by rw [HE.out])), rfl⟩)
    · have HE : Hid (gvR l a = (0, 0, 8)) := hide (gvR_none (by rw [← HG.out, show 6 - k = 0 by omega, gv_zero]))
      go_wp2_with fail
      all_goals (go_ret3; exact ⟨ret_three (int_eq (by rw [HE.out])) (int_eq (by rw [HE.out])) (int_eq (by rw [HE.out])), rfl⟩)
set_option maxHeartbeats 400000 in
theorem rgetvar_neg (A : Option Addr) (len c : Nat) (a : Int) (w : World) (h : a < 0) :
    Calls Try.prog 54 #[.slice A len c, .int .i64 a] w fun e w' => e = .returned (.tuple #[.int .i64 0, .int .i64 0, .int .i64 1]) ∧ w = w' := by
  go_enter Try.func54, Try.ntmps54
  go_wp2_with fail
  all_goals (go_ret3; exact ⟨rfl, rfl⟩)
end Go.Proofs.Ytaoiekcoiooghaa
