/- The contracts of GetText, of the program and of the reference. Condition: the slice reads as a list of bytes. -/
import Derived.Test.YtaoiekcoiooghaaTxt
namespace Go.Proofs.Ytaoiekcoiooghaa
open Go.RowKit
set_option maxHeartbeats 1000000 in
set_option maxRecDepth 20000 in
theorem gettext_any (l : List UInt8) (B : Nat) (A : Option Addr) (len c : Nat) (a most : Nat) (w : World) (hr : Reads w B A len (bvs l)) (hc : len ≤ c) (hcm : c ≤ maxLen) (hm : most ≤ 255) (ha : a ≤ 9223372036854775807) :
    Calls Try.prog 60 #[.slice A len c, .int .i64 (a : Int), .int .i64 (most : Int)] w fun e w' => e = .returned (.tuple #[.string (bstr (gtR l a most).1), .int .i64 (gtR l a most).2.1, .int .i64 (gtR l a most).2.2]) ∧ w = w' := by
  unfold maxLen at hcm
  have hln : l.length = len := by have := hr.1; rwa [bvs_length] at this
  by_cases hla : a < len
  · obtain ⟨b, o, rfl, _, hcl⟩ := hr.at_ hla
    have hl : a < l.length := by omega
    have hcell := hcl a _ (bvs_get l a hl)
    have hG := gtR_cons (most := most) hl
    have hcut := (hr.cut (k := a + 1) (cap := c) (by omega) hc)
    have hd : (bvs l).drop (a + 1) = bvs (l.drop (a + 1)) := by simp [bvs]
    rw [hd] at hcut
    generalize l[a] = x at *
    have hx := x.toNat_lt
    have HL := hide hln
    clear hcl hr hd
    by_cases h1 : most < x.toNat
    · rw [if_pos h1] at hG
      have HG := hide hG
      clear hG hln hcut
      go_enter Try.func60, Try.ntmps60
      go_wp2_with (go_at_call 98; refine (length_yes _ _ (by omega) (by omega)).mono ?_; rintro e w' ⟨rfl, rfl⟩)
      go_ret3
      exact ⟨by rw [HG.out]; rfl, rfl⟩
    · rw [if_neg h1] at hG
      by_cases h2 : l.length - a - 1 < x.toNat
      · rw [if_pos h2] at hG
        rw [hln] at h2
        have HG := hide hG
        clear hG hln hcut
        go_enter Try.func60, Try.ntmps60
        go_wp2_with (go_at_call 98; refine (length_yes _ _ (by omega) (by omega)).mono ?_; rintro e w' ⟨rfl, rfl⟩)
        go_ret3
        exact ⟨by rw [HG.out]; rfl, rfl⟩
      · rw [if_neg h2] at hG
        rw [hln] at h2
        have HG := hide hG
        have hxl : a + 1 + x.toNat ≤ len := by omega
        have hred := (hcut.take_ (k := x.toNat) (by omega))
        have ht : (bvs (l.drop (a + 1))).take x.toNat = bvs ((l.drop (a + 1)).take x.toNat) := by simp [bvs, List.map_take]
        rw [ht] at hred
        clear hG hln hcut h2 ht
        by_cases hcx : a + 1 < c
        · rw [if_neg (by omega)] at hred
          simp only [Option.map_some, add_plain] at hred
          have hconv := run_conv_str (c := c - (a + 1)) hred
          clear hred
          go_enter Try.func60, Try.ntmps60
          go_wp2_with (go_at_call 98; refine (length_yes _ _ (by omega) (by omega)).mono ?_; rintro e w' ⟨rfl, rfl⟩)
          go_ret3
          exact ⟨ret_three_str (by rw [HG.out]; rfl) (by rw [HG.out]; simp) (by rw [HG.out]), rfl⟩
        · have hx0 : x.toNat = 0 := by omega
          have hconv : ∀ ad cp, (convert 47 9 (.slice ad x.toNat cp)).run Try.prog w = .ok (.string (bstr ((l.drop (a + 1)).take x.toNat))) w := by
            intro ad cp
            rw [hx0]
            exact run_conv_str (l := []) (B := 0) Reads.none_
          clear hred
          have HX := hide hx0
          clear hx0
          go_enter Try.func60, Try.ntmps60
          go_wp2_with (go_at_call 98; refine (length_yes _ _ (by omega) (by omega)).mono ?_; rintro e w' ⟨rfl, rfl⟩)
          all_goals (go_ret3; exact ⟨ret_three_str (by rw [HG.out]; rfl) (by rw [HG.out]; simp) (by rw [HG.out]), rfl⟩)
  · have HE := hide (gtR_nil (l := l) (a := a) (most := most) (by omega))
    have HL := hide hln
    clear hln
    go_enter Try.func60, Try.ntmps60
    go_wp2_with (go_at_call 98; refine (length_yes _ _ (by omega) (by omega)).mono ?_; rintro e w' ⟨rfl, rfl⟩)
    all_goals (go_ret3; exact ⟨by rw [HE.out]; rfl, rfl⟩)
set_option maxHeartbeats 1000000 in
theorem gettext_range (A : Option Addr) (len c : Nat) (a most : Int) (w : World) (h : most < 0 ∨ 255 < most ∨ a < 0) :
    Calls Try.prog 60 #[.slice A len c, .int .i64 a, .int .i64 most] w fun e w' => e = .returned (.tuple #[.string (bstr []), .int .i64 0, .int .i64 1]) ∧ w = w' := by
  by_cases hm : 0 ≤ most ∧ most ≤ 255
  · obtain ⟨h1, h2⟩ := hm
    have h3 : a < 0 := by omega
    go_enter Try.func60, Try.ntmps60
    go_wp2_with (go_at_call 98; refine (length_yes _ _ h1 h2).mono ?_; rintro e w' ⟨rfl, rfl⟩)
    all_goals (go_ret3; exact ⟨rfl, rfl⟩)
  · have h1 : most < 0 ∨ 255 < most := by omega
    go_enter Try.func60, Try.ntmps60
    go_wp2_with (go_at_call 98; refine (length_no _ _ h1).mono ?_; rintro e w' ⟨rfl, rfl⟩)
    all_goals (go_ret3; exact ⟨rfl, rfl⟩)
set_option maxHeartbeats 1000000 in
set_option maxRecDepth 20000 in
theorem rgettext_any (l : List UInt8) (B : Nat) (A : Option Addr) (len c : Nat) (a most : Nat) (w : World) (hr : Reads w B A len (bvs l)) (hc : len ≤ c) (hcm : c ≤ maxLen) (hm : most ≤ 255) (ha : a ≤ 9223372036854775807) :
    Calls Try.prog 61 #[.slice A len c, .int .i64 (a : Int), .int .i64 (most : Int)] w fun e w' => e = .returned (.tuple #[.string (bstr (gtR l a most).1), .int .i64 (gtR l a most).2.1, .int .i64 (gtR l a most).2.2]) ∧ w = w' := by
  unfold maxLen at hcm
  have hln : l.length = len := by have := hr.1; rwa [bvs_length] at this
  by_cases hla : a < len
  · obtain ⟨b, o, rfl, _, hcl⟩ := hr.at_ hla
    have hl : a < l.length := by omega
    have hcell := hcl a _ (bvs_get l a hl)
    have hG := gtR_cons (most := most) hl
    have hcut := (hr.cut (k := a + 1) (cap := c) (by omega) hc)
    have hd : (bvs l).drop (a + 1) = bvs (l.drop (a + 1)) := by simp [bvs]
    rw [hd] at hcut
    generalize l[a] = x at *
    have hx := x.toNat_lt
    have HL := hide hln
    clear hcl hr hd
    by_cases h1 : most < x.toNat
    · rw [if_pos h1] at hG
      have HG := hide hG
      clear hG hln hcut
      go_enter Try.func61, Try.ntmps61
      go_wp2_with fail
      go_ret3
      exact ⟨by rw [HG.out]; rfl, rfl⟩
    · rw [if_neg h1] at hG
      by_cases h2 : l.length - a - 1 < x.toNat
      · rw [if_pos h2] at hG
        rw [hln] at h2
        have HG := hide hG
        clear hG hln hcut
        go_enter Try.func61, Try.ntmps61
        go_wp2_with fail
        go_ret3
        exact ⟨by rw [HG.out]; rfl, rfl⟩
      · rw [if_neg h2] at hG
        rw [hln] at h2
        have HG := hide hG
        have hxl : a + 1 + x.toNat ≤ len := by omega
        have hred := (hcut.take_ (k := x.toNat) (by omega))
        have ht : (bvs (l.drop (a + 1))).take x.toNat = bvs ((l.drop (a + 1)).take x.toNat) := by simp [bvs, List.map_take]
        rw [ht] at hred
        clear hG hln hcut h2 ht
        by_cases hcx : a + 1 < c
        · rw [if_neg (by omega)] at hred
          simp only [Option.map_some, add_plain] at hred
          have hconv := run_conv_str (c := c - (a + 1)) hred
          clear hred
          go_enter Try.func61, Try.ntmps61
          go_wp2_with fail
          go_ret3
          exact ⟨ret_three_str (by rw [HG.out]; rfl) (by rw [HG.out]; simp) (by rw [HG.out]), rfl⟩
        · have hx0 : x.toNat = 0 := by omega
          have hconv : ∀ ad cp, (convert 47 9 (.slice ad x.toNat cp)).run Try.prog w = .ok (.string (bstr ((l.drop (a + 1)).take x.toNat))) w := by
            intro ad cp
            rw [hx0]
            exact run_conv_str (l := []) (B := 0) Reads.none_
          clear hred
          have HX := hide hx0
          clear hx0
          go_enter Try.func61, Try.ntmps61
          go_wp2_with fail
          all_goals (go_ret3; exact ⟨ret_three_str (by rw [HG.out]; rfl) (by rw [HG.out]; simp) (by rw [HG.out]), rfl⟩)
  · have HE := hide (gtR_nil (l := l) (a := a) (most := most) (by omega))
    have HL := hide hln
    clear hln
    go_enter Try.func61, Try.ntmps61
    go_wp2_with fail
    all_goals (go_ret3; exact ⟨by rw [HE.out]; rfl, rfl⟩)
set_option maxHeartbeats 1000000 in
theorem rgettext_range (A : Option Addr) (len c : Nat) (a most : Int) (w : World) (h : most < 0 ∨ 255 < most ∨ a < 0) :
    Calls Try.prog 61 #[.slice A len c, .int .i64 a, .int .i64 most] w fun e w' => e = .returned (.tuple #[.string (bstr []), .int .i64 0, .int .i64 1]) ∧ w = w' := by
  by_cases hm : 0 ≤ most ∧ most ≤ 255
  · obtain ⟨h1, h2⟩ := hm
    have h3 : a < 0 := by omega
    go_enter Try.func61, Try.ntmps61
    go_wp2_with fail
    all_goals (go_ret3; exact ⟨rfl, rfl⟩)
  · rcases (show most < 0 ∨ 255 < most by omega) with h1 | h1
    all_goals go_enter Try.func61, Try.ntmps61
    all_goals go_wp2_with fail
    all_goals (go_ret3; exact ⟨rfl, rfl⟩)
end Go.Proofs.Ytaoiekcoiooghaa
