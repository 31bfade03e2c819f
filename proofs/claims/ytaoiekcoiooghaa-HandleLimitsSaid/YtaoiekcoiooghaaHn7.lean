/- The contract of law09's some: a handle within the limits. No condition. -/
import Derived.Test.YtaoiekcoiooghaaHn6
namespace Go.Proofs.Ytaoiekcoiooghaa
open Go.RowKit
/-- What law09's some returns: a handle within the limits, and nothing of the earlier memory is written. -/
def RetS (w : World) (e : Ending) (w' : World) : Prop := ∃ p0 p1 p2 p3 : Int, HOk p0 p1 p2 p3 ∧ e = .returned (.agg #[.int .i64 p0, .int .i64 p1, .int .i64 p2, .int .i64 p3]) ∧ Below w.heap.size w w'
set_option maxHeartbeats 2000000 in
set_option maxRecDepth 20000 in
theorem hsome_core (a0 a1 a2 a3 m0 m1 m2 m3 : Int) (w : World) (e0 : bits BinOp.and IntKind.i64 a0 1073741823 = m0) (e1 : bits BinOp.and IntKind.i64 a1 65535 = m1) (e2 : bits BinOp.and IntKind.i64 a2 65535 = m2) (e3 : bits BinOp.and IntKind.i64 a3 65535 = m3)
    (b0 : 0 ≤ m0 ∧ m0 < 1073741824) (b1 : 0 ≤ m1 ∧ m1 < 65536) (_b2 : 0 ≤ m2 ∧ m2 < 65536) (b3 : 0 ≤ m3 ∧ m3 < 65536) (hk : HOk (1 + m0) (1 + m1) m2 (m3 % 6)) :
    Calls Try.prog 48 #[.agg #[.int .i64 a0, .int .i64 a1, .int .i64 a2, .int .i64 a3]] w (RetS w) := by
  have HK := hide hk
  clear hk
  go_enter Try.func48, Try.ntmps48
  go_wp2_with fail
  have X1 := Box4.new (w.alloc (.cells #[.int .i64 a0, .int .i64 a1, .int .i64 a2, .int .i64 a3] 58)) (.int .i64 (1 + m0)) (.int .i64 (1 + m1)) (.int .i64 m2) (.int .i64 (m3 % 6)) 58
  rw [World.size_alloc] at X1
  obtain ⟨_, x0, x1, x2, x3⟩ := X1
  refine bodyPost_ret (v := .agg #[.int .i64 (1 + m0), .int .i64 (1 + m1), .int .i64 m2, .int .i64 (m3 % 6)]) (by simp [results, Try.results48, go_sem, x0, x1, x2, x3]) rfl ⟨_, _, _, _, HK.out, rfl, ?_⟩
  exact ((Below.refl _ _).alloc (Nat.le_refl _) _).alloc (by simp) _
theorem hsome_any (a0 a1 a2 a3 : Int) (w : World) : Calls Try.prog 48 #[.agg #[.int .i64 a0, .int .i64 a1, .int .i64 a2, .int .i64 a3]] w (RetS w) := by
  have k0 := i64_and30 a0
  have k1 := i64_and65535 a1
  have k2 := i64_and65535 a2
  have k3 := i64_and65535 a3
  refine hsome_core a0 a1 a2 a3 _ _ _ _ w k0 k1 k2 k3 (by omega) (by omega) (by omega) (by omega) ?_
  unfold HOk
  omega
end Go.Proofs.Ytaoiekcoiooghaa
