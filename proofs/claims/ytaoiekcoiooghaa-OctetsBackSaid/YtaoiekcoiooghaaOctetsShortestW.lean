/- The walks of 'OctetsShortest', 'OctetsSizes', 'OctetsBack': each returns true. No condition. -/
import Derived.Test.YtaoiekcoiooghaaOctetsNumbersW
import Derived.Test.YtaoiekcoiooghaaLaw
namespace Go.Proofs.Ytaoiekcoiooghaa
open Go.RowKit

set_option maxHeartbeats 1000000 in
set_option maxRecDepth 20000 in
theorem octetsShortest_walk (A0 : Option Addr) (n0 c0 : Nat) (l0 : List UInt8) (w : World) (w0 : Reads w w.heap.size A0 n0 (bvs l0)) (k0 : n0 ≤ c0) (m0 : c0 ≤ maxLen) :
    Calls Try.prog 12 #[.slice A0 n0 c0] w fun e w' => e = .returned (.bool true) ∧ Below w.heap.size w w' := by
  have hln : l0.length = n0 := by have := w0.1; rwa [bvs_length] at this
  have hm : n0 ≤ maxLen := Nat.le_trans k0 m0
  by_cases hn : 20 < n0
  · clear hln
    go_enter Try.func12, Try.ntmps12
    go_wp2_with fail
    go_ret
    exact ⟨rfl, Below.refl _ _⟩
  · cases hg : gv 6 0 0 (l0.drop 0) with
    | none =>
      have HR := hide (gvR_none hg)
      clear hg hln
      go_enter Try.func12, Try.ntmps12
      go_wp2_with fail
      refine (getvar_any l0 _ _ _ _ 0 _ w0 hm (by decide)).mono ?_
      rintro e w' ⟨rfl, rfl⟩
      rw [HR.out]
      go_wp2_with fail
      refine (oawake_any _).mono ?_
      rintro e w4 ⟨rfl, hb4⟩
      go_wp2_with fail
      go_ret
      exact ⟨rfl, hb4⟩
    | some q =>
      obtain ⟨N, k⟩ := q
      have HR := hide (gvR_some hg)
      obtain ⟨N', j, h1, h2, h3, h4, h5, _, h7, h8⟩ := gv_grp 6 0 0 _ _ _ hg
      obtain rfl : N = N' := by simpa using h1
      obtain rfl : k = j := by simpa using h2
      rw [List.drop_zero] at h5 h8
      have HG := hide (h8 5 (by omega))
      have HN := hide h7
      have HT : Hid ((l0.take k).length = k) := hide (by rw [List.length_take]; omega)
      have hk : k ≤ n0 := by omega
      have hcut : Reads w w.heap.size A0 k (bvs (l0.take k)) := by have := w0.take_ hk; rwa [show (bvs l0).take k = bvs (l0.take k) by simp [bvs, List.map_take]] at this
      clear hg hln h1 h2 h5 h7 h8
      go_enter Try.func12, Try.ntmps12
      go_wp2_with fail
      refine (getvar_any l0 _ _ _ _ 0 _ w0 hm (by decide)).mono ?_
      rintro e w' ⟨rfl, rfl⟩
      rw [HR.out, Nat.zero_add]
      go_wp2_with fail
      refine (putvar_ok [] 0 none 0 0 N _ Reads.none_ (by decide) HN.out).mono ?_
      rintro e w1 ⟨v1, rfl, hown1, hb1⟩
      rw [List.nil_append, HG.out] at hown1
      obtain ⟨A1, c1, hv1, hc1, hm1, hr1⟩ := hown1.shape
      rw [HT.out] at hv1 hr1
      subst hv1
      clear hown1 hc1
      have hcut1 := hcut.below hb1
      go_wp2_with fail
      refine (same_any _ _ _ _ _ _ _ _ _ _ _ hr1 hcut1).mono ?_
      rintro e w' ⟨rfl, rfl⟩
      go_wp2_with fail
      refine (oawake_any _).mono ?_
      rintro e w4 ⟨rfl, hb4⟩
      go_wp2_with fail
      go_ret
      exact ⟨rfl, bnext hb1 hb4⟩

set_option maxHeartbeats 1000000 in
set_option maxRecDepth 20000 in
theorem octetsSizes_core (a0 : Int) (r : Int) (N k : Nat) (w : World) (hr : bits BinOp.and IntKind.i64 a0 3 = r) (hrk : 1 + r = (k : Int)) (hk1 : 1 ≤ k) (hk4 : k ≤ 4) (hN : N < 256 ^ k) (hN2 : N + 1 = 256 ^ k) (hN4 : N ≤ 4294967295)
    (hsh : wrap64 (2 ^ (8 * k)) = (N : Int) + 1) (hbe : be N k = List.replicate k 255) :
    Calls Try.prog 6 #[.int .i64 a0] w fun e w' => e = .returned (.bool true) ∧ Below w.heap.size w w' := by
  have HN := hide hN
  have HB := hide hbe
  have hbad : ¬ (1 ≤ (k : Int) ∧ (k : Int) ≤ 6 ∧ 0 ≤ (N : Int) + 1 ∧ (N : Int) + 1 < ((256 ^ (k : Int).toNat : Nat) : Int)) := by rw [Int.toNat_natCast, ← hN2]; omega
  have HX := hide hbad
  have HK := hide hrk
  clear hN hbe hbad hN2
  go_enter Try.func6, Try.ntmps6
  go_wp2_with fail
  refine (put_ok [] 0 none 0 0 N k _ Reads.none_ (by decide) hk1 (by omega) HN.out).mono ?_
  rintro e w1 ⟨v1, rfl, hown1, hb1⟩
  rw [List.nil_append, HB.out] at hown1
  obtain ⟨g, c1, hv1, hc1, hm1, hgb, hgs, hcell, hfr, hst⟩ := hown1.head (by rw [List.length_replicate]; omega)
  subst hv1
  simp only [List.length_replicate] at *
  have hcell' : ∀ j, j < k → w1.cell? ⟨g, j, none⟩ = some (.int .u8 255) := fun j hj => by rw [hcell j hj, List.getElem_replicate]; rfl
  have HC := hide hcell'
  clear hcell hfr hst hcell' hown1
  go_wp2_with fail
  refine (put_err none 0 0 ((N : Int) + 1) (k : Int) _ HX.out).mono ?_
  rintro e w' ⟨rfl, rfl⟩
  go_wp2_with fail
  refine (put_err none 0 0 (-1) (k : Int) _ (by omega)).mono ?_
  rintro e w' ⟨rfl, rfl⟩
  go_wp2_with fail
  go_loop [10] (fun i => ∃ j : Nat, j ≤ k ∧ i = .int .i64 j) (fun i => k - (intOf i).toNat)
  case atStart => exact ⟨0, by omega, rfl⟩
  case round =>
    obtain ⟨j, hj, rfl⟩ := hrel
    by_cases hlt : j < k
    · have hce := HC.out j hlt
      go_wp2_with fail
      go_round
      case rel => exact ⟨j + 1, by omega, by go_num⟩
      case measure => simp [intOf]; omega
    · go_wp2_with fail
      refine (oawake_any _).mono ?_
      rintro e w4 ⟨rfl, hb4⟩
      go_wp2_with fail
      go_ret
      exact ⟨rfl, bnext hb1 hb4⟩
theorem octetsSizes_walk (a0 : Int) (w : World) (_ : -9223372036854775808 ≤ a0 ∧ a0 ≤ 9223372036854775807) :
    Calls Try.prog 6 #[.int .i64 a0] w fun e w' => e = .returned (.bool true) ∧ Below w.heap.size w w' := by
  have h := i64_and3 a0
  rcases (show a0 % 4 = 0 ∨ a0 % 4 = 1 ∨ a0 % 4 = 2 ∨ a0 % 4 = 3 by omega) with e | e | e | e
  · exact octetsSizes_core a0 0 255 1 w (h.trans e) rfl (by decide) (by decide) (by decide) (by decide) (by decide) (by decide +kernel) (by decide +kernel)
  · exact octetsSizes_core a0 1 65535 2 w (h.trans e) rfl (by decide) (by decide) (by decide) (by decide) (by decide) (by decide +kernel) (by decide +kernel)
  · exact octetsSizes_core a0 2 16777215 3 w (h.trans e) rfl (by decide) (by decide) (by decide) (by decide) (by decide) (by decide +kernel) (by decide +kernel)
  · exact octetsSizes_core a0 3 4294967295 4 w (h.trans e) rfl (by decide) (by decide) (by decide) (by decide) (by decide) (by decide +kernel) (by decide +kernel)

theorem back1 (l0 l1 s : List UInt8) {N : Nat} (h : N ≤ 1099511627776) : gvR (((l0 ++ grp 5 N) ++ txt s) ++ l1) l0.length = ((N : Int), (((l0 ++ grp 5 N).length : Nat) : Int), 0) := by
  rw [gvR_some (n := N) (k := (grp 5 N).length) (by rw [List.append_assoc, List.append_assoc, List.drop_left]; exact gv_back h _), List.length_append]
theorem back2 (p l1 s : List UInt8) (h : s.length ≤ 255) : gtR ((p ++ txt s) ++ l1) p.length 255 = (s, (((p ++ txt s).length : Nat) : Int), 0) := by
  rw [List.append_assoc, gtR_back p s l1 h]
  simp [txt]
  omega
theorem back3 (l0 l1 : List UInt8) {N : Nat} (h : N ≤ 1099511627776) : beVal ((((l0 ++ be N 6) ++ l1).drop l0.length).take 6) = N := by
  have hl := be_length N 6
  rw [List.append_assoc, List.drop_left, List.take_append_of_le_length (by omega), List.take_of_length_le (by omega)]
  exact be_val N 6 (by have e : (256 : Nat) ^ 6 = 281474976710656 := by decide
                       omega)
set_option maxHeartbeats 4000000 in
set_option maxRecDepth 100000 in
theorem octetsBack_core (A0 : Option Addr) (c0 : Nat) (l0 : List UInt8) (A1 : Option Addr) (c1 : Nat) (l1 : List UInt8) (a2 : Int) (a3 : Int) (a4 : ByteArray) (w : World) (w0 : Reads w w.heap.size A0 l0.length (bvs l0)) (w1 : Reads w w.heap.size A1 l1.length (bvs l1))
    (hl0 : l0.length ≤ 200) (hl1 : l1.length ≤ 200) (hs : a4.size ≤ 255) (N : Nat) (hN : N ≤ 1099511627776) (hsel : (0 ≤ a2 ∧ a2 ≤ 1099511627776 ∧ a2 = (N : Int)) ∨ (N = 0 ∧ a2 < 0) ∨ (N = 0 ∧ 1099511627776 < a2)) :
    Calls Try.prog 24 #[.slice A0 l0.length c0, .slice A1 l1.length c1, .int .i64 a2, .int .i64 a3, .string a4] w fun e w' => e = .returned (.bool true) ∧ Below w.heap.size w w' := by
  have hg := grp_length 5 N
  have hds := data_length a4
  have HN := hide hN
  have hb6 : N < 256 ^ 6 := by have e : (256 : Nat) ^ 6 = 281474976710656 := by decide
                               omega
  have H6 := hide hb6
  have H1 := hide (back1 l0 l1 a4.data.toList hN)
  have H2 := hide (back2 (l0 ++ grp 5 N) l1 a4.data.toList (by omega))
  have H3 := hide (back3 l0 l1 hN)
  obtain ⟨L1, hL1⟩ : ∃ L, L = l0 ++ grp 5 N := ⟨_, rfl⟩
  obtain ⟨L2, hL2⟩ : ∃ L, L = L1 ++ txt a4.data.toList := ⟨_, rfl⟩
  obtain ⟨L3, hL3⟩ : ∃ L, L = L2 ++ l1 := ⟨_, rfl⟩
  obtain ⟨L4, hL4⟩ : ∃ L, L = l0 ++ be N 6 := ⟨_, rfl⟩
  obtain ⟨L5, hL5⟩ : ∃ L, L = L4 ++ l1 := ⟨_, rfl⟩
  have hn1 : L1.length ≤ 206 := by rw [hL1, List.length_append]; omega
  have hn2 : L2.length ≤ 462 := by rw [hL2, List.length_append, txt, List.length_cons]; omega
  have hn3 : L3.length ≤ 662 := by rw [hL3, List.length_append]; omega
  have hn31 : L1.length ≤ L3.length := by rw [hL3, hL2]; simp
  have hn4 : L4.length ≤ 206 := by rw [hL4, List.length_append, be_length]; omega
  have hn5 : L5.length ≤ 406 ∧ l0.length + 6 ≤ L5.length := by rw [hL5, List.length_append, hL4, List.length_append, be_length]; omega
  rw [← hL1] at H1 H2
  rw [← hL2] at H1 H2
  rw [← hL3] at H1 H2
  rw [← hL4] at H3
  rw [← hL5] at H3
  have K1 := hide hL1
  have K2 := hide hL2
  have K3 := hide hL3
  have K4 := hide hL4
  have K5 := hide hL5
  clear hL1 hL2 hL3 hL4 hL5 hN hb6 hg hds
  rcases hsel with ⟨hq1, hq2, rfl⟩ | ⟨rfl, hq⟩ | ⟨rfl, hq⟩
  all_goals
    go_enter Try.func24, Try.ntmps24
    go_wp2_with fail
    refine (putvar_ok l0 _ _ _ _ _ _ w0 (by omega) HN.out).mono ?_
    rintro e wa ⟨v1, rfl, hown1, hb1⟩
    rw [← K1.out] at hown1
    obtain ⟨A2, c2, hv2, hc2, hm2, hr2⟩ := hown1.shape
    subst hv2
    go_wp2_with fail
    refine (puttext_ok L1 _ _ _ _ a4 255 _ hr2 (by omega) (by omega) (by omega)).mono ?_
    rintro e wb ⟨v2, rfl, hown2, hb2⟩
    rw [← K2.out] at hown2
    obtain ⟨A3, c3, hv3, hc3, hm3, hr3⟩ := hown2.shape
    subst hv3
    have hbb2 := bnext hb1 hb2
    go_wp2_with (first
      | (at_builtin; refine wpList_app rfl _ _ rfl (OwnB.nil wb wb.heap.size) rfl hr3 rfl (by simp only [List.length_nil]; omega) (Nat.le_refl _) ?_; intro v4 wc hown4 hg4 hb4 hat4; rw [List.nil_append] at hown4)
      | (at_builtin; refine wpList_app rfl _ _ rfl hown4 rfl (w1.below (bnext hbb2 hb4)) rfl (by omega) hb4.size ?_; intro v5 wd hown5 hg5 hb5 hat5; rw [← K3.out] at hown5; obtain ⟨A6, c6, hv6, hc6, hm6, hr6⟩ := hown5.shape; subst hv6))
    have hbb5 := bnext hbb2 (hb4.trans hb5)
    have hm6' : L3.length ≤ maxLen := by simp only [maxLen]; omega
    clear hown1 hown2 hown4 hown5 hr2 hr3 hg4 hg5 hat4 hat5 hb1 hb2 hb4 hb5 hbb2
    refine (getvar_any L3 _ _ _ _ l0.length _ hr6 hm6' (by omega)).mono ?_
    rintro e w' ⟨rfl, rfl⟩
    rw [H1.out]
    go_wp2_with fail
    refine (gettext_any L3 _ _ _ _ L1.length 255 _ hr6 hc6 hm6 (by omega) (by omega)).mono ?_
    rintro e w' ⟨rfl, rfl⟩
    rw [H2.out, bstr_self]
    go_wp2_with fail
    refine (put_ok l0 _ _ _ _ _ 6 _ (w0.below hbb5) (by omega) (by decide) (by decide) H6.out).mono ?_
    rintro e we ⟨v7, rfl, hown7, hb7⟩
    rw [← K4.out] at hown7
    obtain ⟨A7, c7, hv7, hc7, hm7, hr7⟩ := hown7.shape
    subst hv7
    have hbb7 := bnext hbb5 hb7
    go_wp2_with (first
      | (at_builtin; refine wpList_app rfl _ _ rfl (OwnB.nil we we.heap.size) rfl hr7 rfl (by simp only [List.length_nil]; omega) (Nat.le_refl _) ?_; intro v8 wf hown8 hg8 hb8 hat8; rw [List.nil_append] at hown8)
      | (at_builtin; refine wpList_app rfl _ _ rfl hown8 rfl (w1.below (bnext hbb7 hb8)) rfl (by omega) hb8.size ?_; intro v9 wg hown9 hg9 hb9 hat9; rw [← K5.out] at hown9; obtain ⟨A9, c9, hv9, hc9, hm9, hr9⟩ := hown9.shape; subst hv9))
    have hbb9 := bnext hbb7 (hb8.trans hb9)
    clear hown7 hown8 hown9 hr6 hr7 hg8 hg9 hat8 hat9 hb7 hb8 hb9 hbb7 hbb5
    refine (get_ok L5 _ _ _ _ l0.length 6 _ hr9 hc9 hm9 (by decide) (by decide) hn5.2).mono ?_
    rintro e w' ⟨rfl, rfl⟩
    rw [H3.out]
    go_wp2_with fail
    refine (oawake_any _).mono ?_
    rintro e wz ⟨rfl, hbz⟩
    go_wp2_with fail
    go_ret
    exact ⟨rfl, bnext hbb9 hbz⟩
theorem octetsBack_walk (A0 : Option Addr) (n0 c0 : Nat) (l0 : List UInt8) (A1 : Option Addr) (n1 c1 : Nat) (l1 : List UInt8) (a2 : Int) (a3 : Int) (a4 : ByteArray) (w : World) (w0 : Reads w w.heap.size A0 n0 (bvs l0)) (_ : n0 ≤ c0) (_ : c0 ≤ maxLen) (w1 : Reads w w.heap.size A1 n1 (bvs l1)) (_ : n1 ≤ c1) (_ : c1 ≤ maxLen) (_ : -9223372036854775808 ≤ a2 ∧ a2 ≤ 9223372036854775807) (_ : -9223372036854775808 ≤ a3 ∧ a3 ≤ 9223372036854775807) (_ : a4.size ≤ maxLen) :
    Calls Try.prog 24 #[.slice A0 n0 c0, .slice A1 n1 c1, .int .i64 a2, .int .i64 a3, .string a4] w fun e w' => e = .returned (.bool true) ∧ Below w.heap.size w w' := by
  have hln0 : l0.length = n0 := by have := w0.1; rwa [bvs_length] at this
  have hln1 : l1.length = n1 := by have := w1.1; rwa [bvs_length] at this
  subst hln0 hln1
  by_cases h : 200 < l0.length ∨ 200 < l1.length ∨ 255 < a4.size
  · by_cases h1 : 200 < l0.length
    · clear h
      go_enter Try.func24, Try.ntmps24
      go_wp2_with fail
      go_ret
      exact ⟨rfl, Below.refl _ _⟩
    · by_cases h2 : 200 < l1.length
      · clear h
        go_enter Try.func24, Try.ntmps24
        go_wp2_with fail
        go_ret
        exact ⟨rfl, Below.refl _ _⟩
      · have h3 : 255 < a4.size := by omega
        clear h
        go_enter Try.func24, Try.ntmps24
        go_wp2_with fail
        go_ret
        exact ⟨rfl, Below.refl _ _⟩
  · by_cases h2 : 0 ≤ a2 ∧ a2 ≤ 1099511627776
    · obtain ⟨N, rfl⟩ := Int.eq_ofNat_of_zero_le h2.1
      exact octetsBack_core A0 c0 l0 A1 c1 l1 _ a3 a4 w w0 w1 (by omega) (by omega) (by omega) N (by omega) (.inl ⟨h2.1, h2.2, rfl⟩)
    · exact octetsBack_core A0 c0 l0 A1 c1 l1 a2 a3 a4 w w0 w1 (by omega) (by omega) (by omega) 0 (by omega) (by omega)
end Go.Proofs.Ytaoiekcoiooghaa
