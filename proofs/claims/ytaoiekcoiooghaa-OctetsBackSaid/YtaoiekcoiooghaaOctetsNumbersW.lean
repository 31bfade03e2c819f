/- The walks of 'OctetsNumbers', 'OctetsTexts': each returns true. No condition. -/
import Derived.Test.YtaoiekcoiooghaaTot
namespace Go.Proofs.Ytaoiekcoiooghaa
open Go.RowKit

theorem grp300 : grp 5 300 = [172, 2] := by decide +kernel
set_option maxHeartbeats 1000000 in
theorem oawake_any (w : World) : Calls Try.prog 40 #[] w fun e w' => e = .returned (.bool true) ∧ Below w.heap.size w w' := by
  go_enter Try.func40, Try.ntmps40
  go_wp2_with fail
  refine (putvar_ok [] 0 none 0 0 300 w Reads.none_ (by decide) (by decide)).mono ?_
  rintro e w1 ⟨v1, rfl, hown1, hb1⟩
  rw [grp300, List.nil_append] at hown1
  obtain ⟨g, c1, hv1, hc1, hm1, hgb, hgs, hcell, hfr, hst⟩ := hown1.head (by decide)
  subst hv1
  have h0 := hcell 0 (by decide)
  have h1 := hcell 1 (by decide)
  clear hcell hfr hst
  go_wp2_with fail
  go_ret
  exact ⟨rfl, hb1⟩

set_option maxHeartbeats 1000000 in
theorem octetsNumbers_walk (A0 : Option Addr) (n0 c0 : Nat) (l0 : List UInt8) (a1 : Int) (a2 : Int) (a3 : Int) (w : World) (w0 : Reads w w.heap.size A0 n0 (bvs l0)) (k0 : n0 ≤ c0) (m0 : c0 ≤ maxLen) (_ : -9223372036854775808 ≤ a1 ∧ a1 ≤ 9223372036854775807) (_ : -9223372036854775808 ≤ a2 ∧ a2 ≤ 9223372036854775807) (w3 : -9223372036854775808 ≤ a3 ∧ a3 ≤ 9223372036854775807) :
    Calls Try.prog 13 #[.slice A0 n0 c0, .int .i64 a1, .int .i64 a2, .int .i64 a3] w fun e w' => e = .returned (.bool true) ∧ Below w.heap.size w w' := by
  have hln : l0.length = n0 := by have := w0.1; rwa [bvs_length] at this
  by_cases hn : 300 < n0
  · clear hln
    go_enter Try.func13, Try.ntmps13
    go_wp2_with fail
    go_ret
    exact ⟨rfl, Below.refl _ _⟩
  · have hl : l0.length ≤ 300 := by omega
    have HL := hide hln
    clear hln
    go_enter Try.func13, Try.ntmps13
    go_wp2_with (first
      | (at_builtin; refine wpList_app rfl _ _ rfl (OwnB.nil w w.heap.size) rfl w0 rfl (by simp only [List.length_nil]; omega) (Nat.le_refl _) ?_; intro v1 w1 hown1 hg1 hb1 hat1; rw [List.nil_append] at hown1; obtain ⟨A1, c1, hv1, hc1, hm1, hr1⟩ := hown1.shape; subst hv1))
    refine (put_any l0 _ _ _ _ _ _ _ hr1 (by omega)).mono ?_
    rintro e w2 ⟨v2, rfl, hown2, hb2⟩
    obtain ⟨A2, c2, hv2, hc2, hm2, hr2⟩ := hown2.shape
    subst hv2
    have hs2 := hb2.size
    have hbb2 := bnext hb1 hb2
    go_wp2_with fail
    refine (rput_any l0 _ _ _ _ _ _ _ (w0.below hbb2) (by omega)).mono ?_
    rintro e w3 ⟨v3, rfl, hown3, hb3⟩
    obtain ⟨A3, c3, hv3, hc3, hm3, hr3⟩ := hown3.shape
    subst hv3
    have hbb3 := bnext hbb2 hb3
    have hr13 := (hr1.below hb2).below (hb3.mono hs2)
    have hr03 := w0.below hbb3
    go_wp2_with fail
    refine (get_any l0 _ _ _ _ _ _ _ hr13 hc1 hm1 (by omega)).mono ?_
    rintro e w' ⟨rfl, rfl⟩
    go_wp2_with fail
    refine (rget_any l0 _ _ _ _ _ _ _ hr03 k0 m0 (by omega)).mono ?_
    rintro e w' ⟨rfl, rfl⟩
    go_wp2_with fail
    refine (same_any _ _ _ _ _ _ _ _ _ _ _ (hr2.below hb3) hr3).mono ?_
    rintro e w' ⟨rfl, rfl⟩
    go_wp2_with fail
    refine (same_any _ _ _ _ _ _ _ _ _ _ _ hr13 hr03).mono ?_
    rintro e w' ⟨rfl, rfl⟩
    go_wp2_with fail
    refine (oawake_any _).mono ?_
    rintro e w4 ⟨rfl, hb4⟩
    go_wp2_with fail
    go_ret
    exact ⟨rfl, bnext hbb3 hb4⟩

set_option maxHeartbeats 1000000 in
theorem octetsTexts_walk (A0 : Option Addr) (n0 c0 : Nat) (l0 : List UInt8) (a1 : ByteArray) (a2 : Int) (a3 : Int) (w : World) (w0 : Reads w w.heap.size A0 n0 (bvs l0)) (k0 : n0 ≤ c0) (m0 : c0 ≤ maxLen) (_ : a1.size ≤ maxLen) (_ : -9223372036854775808 ≤ a2 ∧ a2 ≤ 9223372036854775807) (w3 : -9223372036854775808 ≤ a3 ∧ a3 ≤ 9223372036854775807) :
    Calls Try.prog 14 #[.slice A0 n0 c0, .string a1, .int .i64 a2, .int .i64 a3] w fun e w' => e = .returned (.bool true) ∧ Below w.heap.size w w' := by
  by_cases hn : 600 < n0
  · go_enter Try.func14, Try.ntmps14
    go_wp2_with fail
    go_ret
    exact ⟨rfl, Below.refl _ _⟩
  · by_cases hs : 600 < a1.size
    · go_enter Try.func14, Try.ntmps14
      go_wp2_with fail
      go_ret
      exact ⟨rfl, Below.refl _ _⟩
    · go_enter Try.func14, Try.ntmps14
      go_wp2_with fail
      refine (puttext_any l0 _ _ _ _ _ _ _ w0 (by omega)).mono ?_
      rintro e w1 ⟨v1, rfl, hown1, hb1⟩
      obtain ⟨A1, c1, hv1, hc1, hm1, hr1⟩ := hown1.shape
      subst hv1
      go_wp2_with fail
      refine (rputtext_any l0 _ _ _ _ _ _ _ (w0.below hb1) (by omega)).mono ?_
      rintro e w2 ⟨v2, rfl, hown2, hb2⟩
      obtain ⟨A2, c2, hv2, hc2, hm2, hr2⟩ := hown2.shape
      subst hv2
      have hbb2 := bnext hb1 hb2
      have hr02 := w0.below hbb2
      go_wp2_with fail
      refine (gettext_all l0 _ _ _ _ _ _ _ hr02 k0 m0 (by omega)).mono ?_
      rintro e w' ⟨rfl, rfl⟩
      go_wp2_with fail
      refine (rgettext_all l0 _ _ _ _ _ _ _ hr02 k0 m0 (by omega)).mono ?_
      rintro e w' ⟨rfl, rfl⟩
      go_wp2_with fail
      refine (same_any _ _ _ _ _ _ _ _ _ _ _ (hr1.below hb2) hr2).mono ?_
      rintro e w' ⟨rfl, rfl⟩
      go_wp2_with fail
      refine (oawake_any _).mono ?_
      rintro e w4 ⟨rfl, hb4⟩
      go_wp2_with fail
      go_ret
      exact ⟨rfl, bnext hbb2 hb4⟩

set_option maxHeartbeats 1000000 in
set_option maxRecDepth 100000 in
theorem octetsGroups_walk (A0 : Option Addr) (n0 c0 : Nat) (l0 : List UInt8) (a1 : Int) (a2 : Int) (w : World) (w0 : Reads w w.heap.size A0 n0 (bvs l0)) (k0 : n0 ≤ c0) (m0 : c0 ≤ maxLen) (_ : -9223372036854775808 ≤ a1 ∧ a1 ≤ 9223372036854775807) (w2 : -9223372036854775808 ≤ a2 ∧ a2 ≤ 9223372036854775807) :
    Calls Try.prog 11 #[.slice A0 n0 c0, .int .i64 a1, .int .i64 a2] w fun e w' => e = .returned (.bool true) ∧ Below w.heap.size w w' := by
  by_cases hn : 300 < n0
  · go_enter Try.func11, Try.ntmps11
    go_wp2_with fail
    go_ret
    exact ⟨rfl, Below.refl _ _⟩
  · have hm : n0 ≤ maxLen := Nat.le_trans k0 m0
    go_enter Try.func11, Try.ntmps11
    go_wp2_with fail
    refine (putvar_any l0 _ _ _ _ _ _ w0 (by omega)).mono ?_
    rintro e w1 ⟨v1, rfl, hown1, hb1⟩
    obtain ⟨A1, c1, hv1, hc1, hm1, hr1⟩ := hown1.shape
    subst hv1
    go_wp2_with fail
    refine (rputvar_any l0 _ _ _ _ _ _ (w0.below hb1) (by omega)).mono ?_
    rintro e w2 ⟨v2, rfl, hown2, hb2⟩
    obtain ⟨A2, c2, hv2, hc2, hm2, hr2⟩ := hown2.shape
    subst hv2
    have hbb2 := bnext hb1 hb2
    have hr02 := w0.below hbb2
    go_wp2_with fail
    refine (getvar_all l0 _ _ _ _ _ _ hr02 hm (by omega)).mono ?_
    rintro e w' ⟨rfl, rfl⟩
    go_wp2_with fail
    refine (rgetvar_all l0 _ _ _ _ _ _ hr02 hm (by omega)).mono ?_
    rintro e w' ⟨rfl, rfl⟩
    go_wp2_with fail
    refine (same_any _ _ _ _ _ _ _ _ _ _ _ (hr1.below hb2) hr2).mono ?_
    rintro e w' ⟨rfl, rfl⟩
    go_wp2_with fail
    clear hown1 hown2 hr1 hr2 hc1 hc2 hm1 hm2
    go_loop [17] (fun i => ∃ k : Nat, k ≤ 20 ∧ i = .int .i64 k) (fun i => 20 - (intOf i).toNat)
    case atStart => exact ⟨0, by omega, rfl⟩
    case round =>
      obtain ⟨k, hk, rfl⟩ := hrel
      by_cases h1 : k < n0
      · by_cases h2 : k < 20
        · go_wp2_with fail
          refine (getvar_all l0 _ _ _ _ _ _ hr02 hm (by omega)).mono ?_
          rintro e w' ⟨rfl, rfl⟩
          go_wp2_with fail
          refine (rgetvar_all l0 _ _ _ _ _ _ hr02 hm (by omega)).mono ?_
          rintro e w' ⟨rfl, rfl⟩
          go_wp2_with fail
          go_round
          case rel => exact ⟨k + 1, by omega, by go_num⟩
          case measure => simp [intOf]; omega
        · go_wp2_with fail
          refine (oawake_any _).mono ?_
          rintro e w4 ⟨rfl, hb4⟩
          go_wp2_with fail
          go_ret
          exact ⟨rfl, bnext hbb2 hb4⟩
      · go_wp2_with fail
        refine (oawake_any _).mono ?_
        rintro e w4 ⟨rfl, hb4⟩
        go_wp2_with fail
        go_ret
        exact ⟨rfl, bnext hbb2 hb4⟩
end Go.Proofs.Ytaoiekcoiooghaa
