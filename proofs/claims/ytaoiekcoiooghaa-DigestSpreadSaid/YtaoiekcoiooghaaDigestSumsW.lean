/- The walks of 'DigestSums', 'DigestRoutes', 'DigestSpread': each returns true. No condition. -/
import Derived.Test.YtaoiekcoiooghaaDg2
namespace Go.Proofs.Ytaoiekcoiooghaa
open Go.RowKit

set_option maxHeartbeats 1000000 in
theorem digestSums_walk (A0 : Option Addr) (n0 c0 : Nat) (l0 : List UInt8) (w : World) (w0 : Reads w w.heap.size A0 n0 (bvs l0)) (_ : n0 ≤ c0) (_ : c0 ≤ maxLen) :
    Calls Try.prog 8 #[.slice A0 n0 c0] w fun e w' => e = .returned (.bool true) ∧ Below w.heap.size w w' := by
  by_cases hn : 2000 < n0
  · go_enter Try.func8, Try.ntmps8
    go_wp2_with fail
    go_ret
    exact ⟨rfl, Below.refl _ _⟩
  · have hm : n0 ≤ maxLen := by simp only [maxLen]; omega
    go_enter Try.func8, Try.ntmps8
    go_wp2_with (first
      | (go_at_call 43; refine (digsum_any l0 _ A0 n0 c0 _ w0 hm).mono ?_; rintro e w' ⟨rfl, rfl⟩)
      | (go_at_call 44; refine (refsum_any l0 _ A0 n0 c0 _ w0 hm).mono ?_; rintro e w' ⟨rfl, rfl⟩)
      | (go_at_call 45; refine (digcheck_any l0 _ A0 n0 c0 _ w0 (Nat.le_refl _) hm).mono ?_; rintro e w1 ⟨rfl, hb1⟩)
      | (go_at_call 46; refine (refcheck_any l0 _ A0 n0 c0 _ (w0.below hb1) hb1.size (by omega)).mono ?_; rintro e w2 ⟨rfl, hb2⟩)
      | (go_at_call 42; refine (dawake_any _).mono ?_; rintro e w3 ⟨rfl, hb3⟩))
    go_ret
    exact ⟨rfl, bnext (bnext hb1 hb2) hb3⟩

set_option maxHeartbeats 1000000 in
theorem digestRoutes_walk (a0 : Int) (a1 : Int) (a2 : Int) (a3 : Int) (w : World) (_ : -9223372036854775808 ≤ a0 ∧ a0 ≤ 9223372036854775807) (_ : -9223372036854775808 ≤ a1 ∧ a1 ≤ 9223372036854775807) (_ : -9223372036854775808 ≤ a2 ∧ a2 ≤ 9223372036854775807) (_ : -9223372036854775808 ≤ a3 ∧ a3 ≤ 9223372036854775807) :
    Calls Try.prog 15 #[.int .i64 a0, .int .i64 a1, .int .i64 a2, .int .i64 a3] w fun e w' => e = .returned (.bool true) ∧ Below w.heap.size w w' := by
  go_enter Try.func15, Try.ntmps15
  go_wp2_with fail
  refine (route_any _ _).mono ?_; rintro e w1 ⟨rfl, hb1⟩
  go_wp2_with fail
  refine (refroute_any _ _).mono ?_; rintro e w2 ⟨rfl, hb2⟩
  go_wp2_with fail
  refine (into_any _ _ _ _).mono ?_; rintro e w' ⟨rfl, rfl⟩
  go_wp2_with fail
  refine (refinto_any _ _ _ _).mono ?_; rintro e w' ⟨rfl, rfl⟩
  go_wp2_with fail
  refine (route_any _ _).mono ?_; rintro e w3 ⟨rfl, hb3⟩
  go_wp2_with fail
  refine (into_any _ _ _ _).mono ?_; rintro e w' ⟨rfl, rfl⟩
  go_wp2_with fail
  refine (refroute_any _ _).mono ?_; rintro e w4 ⟨rfl, hb4⟩
  go_wp2_with fail
  refine (refinto_any _ _ _ _).mono ?_; rintro e w' ⟨rfl, rfl⟩
  go_wp2_with fail
  refine (dawake_any _).mono ?_; rintro e w5 ⟨rfl, hb5⟩
  go_wp2_with fail
  go_ret
  exact ⟨rfl, bnext (bnext (bnext (bnext hb1 hb2) hb3) hb4) hb5⟩

set_option maxHeartbeats 1000000 in
theorem digestSpread_walk (a0 : Int) (w : World) (_ : -9223372036854775808 ≤ a0 ∧ a0 ≤ 9223372036854775807) :
    Calls Try.prog 16 #[.int .i64 a0] w fun e w' => e = .returned (.bool true) ∧ Below w.heap.size w w' := by
  obtain ⟨r0, r1⟩ := routeOf_bounds a0
  by_cases h : a0 < 0 ∨ 1073741824 < a0
  · have hz : (routeOf a0 == 0) = true := by rw [routeOf_out h]; rfl
    rcases h with h | h
    all_goals
      go_enter Try.func16, Try.ntmps16
      go_wp2_with (first
        | (go_at_call 62; refine (route_any _ _).mono ?_; rintro e w1 ⟨rfl, hb1⟩)
        | (go_at_call 42; refine (dawake_any _).mono ?_; rintro e w2 ⟨rfl, hb2⟩))
      go_ret
      exact ⟨rfl, bnext hb1 hb2⟩
  · have h0 : 0 ≤ a0 := by omega
    have h1 : a0 ≤ 1073741824 := by omega
    clear h
    go_enter Try.func16, Try.ntmps16
    go_wp2_with (first
      | (go_at_call 62; refine (route_any _ _).mono ?_; rintro e w1 ⟨rfl, hb1⟩)
      | (go_at_call 42; refine (dawake_any _).mono ?_; rintro e w2 ⟨rfl, hb2⟩))
    go_ret
    exact ⟨rfl, bnext hb1 hb2⟩
end Go.Proofs.Ytaoiekcoiooghaa
