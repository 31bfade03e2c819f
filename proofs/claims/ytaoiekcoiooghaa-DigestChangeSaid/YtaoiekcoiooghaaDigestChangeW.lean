/- The walk of 'DigestChange': it returns true. No condition. -/
import Derived.Test.YtaoiekcoiooghaaDg2
namespace Go.Proofs.Ytaoiekcoiooghaa
open Go.RowKit

set_option maxHeartbeats 1000000 in
set_option maxRecDepth 20000 in
theorem digestChange_core (A0 : Option Addr) (n0 c0 : Nat) (l0 : List UInt8) (a1 : Int) (a2 : UInt8) (w : World) (w0 : Reads w w.heap.size A0 n0 (bvs l0)) (_k0 : n0 ≤ c0) (_m0 : c0 ≤ maxLen) (hln : l0.length = n0)
    (h1b : ((n0 : Int) == 0) = false) (h2 : n0 ≤ 500) (h3b : ((a2.toNat : Int) == 0) = false) (h4 : 0 ≤ a1) (hl : l0.length ≤ 500) (hlp : 1 ≤ l0.length)
    (k : Nat) (hk : a1 % (l0.length : Int) = (k : Int)) (hkl : k < l0.length) (y : UInt8) (hx : bits .xor .u8 ((l0[k]).toNat : Int) (a2.toNat : Int) = (y.toNat : Int)) (l1 : List UInt8) (hl1 : l0.set k y = l1) (hsl : l1.length = l0.length)
    (c1 : fsum l1 ≠ fsum l0) (c2 : fcheck l1 ≠ fcheck l0) (c3 : l1 ≠ l0) :
    Calls Try.prog 9 #[.slice A0 n0 c0, .int .i64 a1, .int .u8 (a2.toNat : Int)] w fun e w' => e = .returned (.bool true) ∧ Below w.heap.size w w' := by
  have t1 : (((fsum l1 : Nat) : Int) != ((fsum l0 : Nat) : Int)) = true := by rw [bne_iff_ne]; omega
  have t2 : (((fcheck l1 : Nat) : Int) != ((fcheck l0 : Nat) : Int)) = true := by rw [bne_iff_ne]; omega
  have t3 : decide (l1 = l0) = false := decide_eq_false c3
  have t4 : ((fsum l0 : Nat) : Int) ≤ 4294967295 := by have := fsum_lt l0; omega
  have HL := hide hln
  have HS := hide hl1
  have HE := hide hsl
  have hm : n0 ≤ maxLen := by simp only [maxLen]; omega
  clear hln hl1 c1 c2 c3 hsl
  go_enter Try.func9, Try.ntmps9
  go_wp2_with (first
    | (at_builtin; refine wpList_app rfl _ _ rfl (OwnB.nil w w.heap.size) rfl w0 rfl (by simp only [List.length_nil]; omega) (Nat.le_refl _) ?_; intro v1 w1 hown1 hg1 hb1 hat1; rw [List.nil_append] at hown1; obtain ⟨g, c1, hv1, hc1, hm1, hgb, hgs, hcell, hfr, hst⟩ := hown1.head (by omega); subst hv1; have hck := hcell k hkl; have hfk := hfr k; have hsk := hst k y; have hbs := hb1.setCell (p := ⟨g, k, none⟩) hgb (.int .u8 (y.toNat : Int)); clear hcell hfr hst hat1 hg1))
  have hr0 := w0.below hbs
  rw [HS.out] at hsk
  have hr1 := hsk.reads.2
  have hBs := hbs.size
  have hm1' : l0.length ≤ maxLen := by simp only [maxLen]; omega
  generalize w1.setCell _ _ = wS at *
  clear hck hfk hx hk
  refine (digsum_any l1 _ _ _ _ _ hr1 hm1').mono ?_; rintro e w' ⟨rfl, rfl⟩
  go_wp2_with fail
  refine (digsum_any l0 _ _ _ _ _ hr0 hm).mono ?_; rintro e w' ⟨rfl, rfl⟩
  go_wp2_with fail
  refine (digcheck_any l1 _ _ _ _ _ hr1 (Nat.le_refl _) hm1').mono ?_; rintro e w2 ⟨rfl, hb2⟩
  have hbs2 := bnext hbs hb2
  have hr02 := w0.below hbs2
  have hr12 := hr1.below hb2
  have hs2 := hb2.size
  go_wp2_with fail
  refine (digcheck_any l0 _ _ _ _ _ hr02 hbs2.size hm).mono ?_; rintro e w3 ⟨rfl, hb3⟩
  have hbs3 := bnext hbs2 hb3
  have hr03 := w0.below hbs3
  have hr13 := hr12.below (hb3.mono hs2)
  go_wp2_with fail
  refine (digsum_any l0 _ _ _ _ _ hr03 hm).mono ?_; rintro e w' ⟨rfl, rfl⟩
  go_wp2_with fail
  refine (digsum_any l0 _ _ _ _ _ hr03 hm).mono ?_; rintro e w' ⟨rfl, rfl⟩
  go_wp2_with fail
  refine (same_any l1 l0 _ _ _ _ _ _ _ _ _ hr13 hr03).mono ?_; rintro e w' ⟨rfl, rfl⟩
  go_wp2_with fail
  refine (dawake_any _).mono ?_; rintro e w4 ⟨rfl, hb4⟩
  go_wp2_with fail
  go_ret
  exact ⟨rfl, bnext hbs3 hb4⟩
set_option maxHeartbeats 1000000 in
theorem digestChange_walk (A0 : Option Addr) (n0 c0 : Nat) (l0 : List UInt8) (a1 : Int) (a2 : UInt8) (w : World) (w0 : Reads w w.heap.size A0 n0 (bvs l0)) (k0 : n0 ≤ c0) (m0 : c0 ≤ maxLen) (w1 : -9223372036854775808 ≤ a1 ∧ a1 ≤ 9223372036854775807) :
    Calls Try.prog 9 #[.slice A0 n0 c0, .int .i64 a1, .int .u8 (a2.toNat : Int)] w fun e w' => e = .returned (.bool true) ∧ Below w.heap.size w w' := by
  have hln : l0.length = n0 := by have := w0.1; rwa [bvs_length] at this
  by_cases h1 : n0 = 0
  · subst h1
    go_enter Try.func9, Try.ntmps9
    go_wp2_with fail
    go_ret
    exact ⟨rfl, Below.refl _ _⟩
  · have h1b : ((n0 : Int) == 0) = false := by rw [beq_eq_false_iff_ne]; omega
    by_cases h2 : 500 < n0
    · clear h1 hln
      go_enter Try.func9, Try.ntmps9
      go_wp2_with fail
      go_ret
      exact ⟨rfl, Below.refl _ _⟩
    · have h2' : n0 ≤ 500 := by omega
      by_cases h3 : a2.toNat = 0
      · have h3b : ((a2.toNat : Int) == 0) = true := by rw [beq_iff_eq]; omega
        clear h1 hln h3 h2
        go_enter Try.func9, Try.ntmps9
        go_wp2_with fail
        go_ret
        exact ⟨rfl, Below.refl _ _⟩
      · have h3b : ((a2.toNat : Int) == 0) = false := by rw [beq_eq_false_iff_ne]; omega
        by_cases h4 : a1 < 0
        · clear h1 hln h3 h2
          go_enter Try.func9, Try.ntmps9
          go_wp2_with fail
          go_ret
          exact ⟨rfl, Below.refl _ _⟩
        · have h4' : 0 ≤ a1 := by omega
          have hl : l0.length ≤ 500 := by omega
          have hlp : 1 ≤ l0.length := by omega
          obtain ⟨k, hk⟩ := Int.eq_ofNat_of_zero_le (show 0 ≤ a1 % (l0.length : Int) from Int.emod_nonneg _ (by omega))
          have hkl : k < l0.length := by have := Int.emod_lt_of_pos a1 (show 0 < (l0.length : Int) by omega); omega
          have hne : l0[k] ^^^ a2 ≠ l0[k] := xor_ne h3
          have hx := xor_u8 l0[k] a2
          have c1 := fsum_change l0 k hkl _ hne
          have c2 := fcheck_change l0 k hkl _ hne
          have c3 := set_ne hkl hne
          have hsl : (l0.set k (l0[k] ^^^ a2)).length = l0.length := List.length_set
          clear h1 h3 h2 h4 hne
          exact digestChange_core A0 n0 c0 l0 a1 a2 w w0 k0 m0 hln h1b h2' h3b h4' hl hlp k hk hkl _ hx _ rfl hsl c1 c2 c3
end Go.Proofs.Ytaoiekcoiooghaa
