/- The contract of law09's awake. No condition. -/
import Derived.Test.YtaoiekcoiooghaaHn4
namespace Go.Proofs.Ytaoiekcoiooghaa
open Go.RowKit
set_option maxHeartbeats 2000000 in
set_option maxRecDepth 20000 in
theorem hawake_any (w : World) : Calls Try.prog 50 #[] w fun e w' => e = .returned (.bool true) ∧ Below w.heap.size w w' := by
  go_enter Try.func50, Try.ntmps50
  go_wp2_with fail
  refine (henc_any _ _ _ _ _).mono ?_
  rintro e w1 ⟨v1, he, hown1, hb1⟩
  have e1 : encE 1 2 3 4 = 0 := by decide +kernel
  have hlen : (encL 1 2 3 4).length = 16 := by decide +kernel
  obtain ⟨A1, c1, hv1, hc1, hm1, hq1⟩ := hown1.shape
  rw [hlen] at hq1 hc1 hv1
  obtain ⟨b, o, rfl, _, hcc⟩ := hq1.at_ (show 0 < 16 by decide)
  have y0 : ∃ h : 0 < (encL 1 2 3 4).length, (encL 1 2 3 4)[0] = 113 := by decide +kernel
  obtain ⟨z0, y0⟩ := y0
  have x0 := hcc 0 _ (bvs_get _ 0 z0)
  rw [y0] at x0
  have y4 : ∃ h : 4 < (encL 1 2 3 4).length, (encL 1 2 3 4)[4] = 1 := by decide +kernel
  obtain ⟨z4, y4⟩ := y4
  have x4 := hcc 4 _ (bvs_get _ 4 z4)
  rw [y4] at x4
  have y7 : ∃ h : 7 < (encL 1 2 3 4).length, (encL 1 2 3 4)[7] = 2 := by decide +kernel
  obtain ⟨z7, y7⟩ := y7
  have x7 := hcc 7 _ (bvs_get _ 7 z7)
  rw [y7] at x7
  have y9 : ∃ h : 9 < (encL 1 2 3 4).length, (encL 1 2 3 4)[9] = 3 := by decide +kernel
  obtain ⟨z9, y9⟩ := y9
  have x9 := hcc 9 _ (bvs_get _ 9 z9)
  rw [y9] at x9
  have y10 : ∃ h : 10 < (encL 1 2 3 4).length, (encL 1 2 3 4)[10] = 4 := by decide +kernel
  obtain ⟨z10, y10⟩ := y10
  have x10 := hcc 10 _ (bvs_get _ 10 z10)
  rw [y10] at x10
  rw [Nat.add_zero] at x0
  subst he hv1
  rw [e1]
  clear hcc hown1 hq1 y0 y4 y7 y9 y10 z0 z4 z7 z9 z10
  go_wp2_with fail
  go_ret
  exact ⟨rfl, hb1⟩
end Go.Proofs.Ytaoiekcoiooghaa
