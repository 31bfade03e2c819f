/- The contracts of the messages' Revive and Reroute, of the program and of the reference. No condition. -/
import Derived.Test.YtaoiekcoiooghaaMs2
namespace Go.Proofs.Ytaoiekcoiooghaa
open Go.RowKit
set_option maxHeartbeats 1000000 in
set_option maxRecDepth 20000 in
theorem mrev_any (x0 x1 x2 x3 x4 x5 : Int) (s : ByteArray) (w : World) : Calls Try.prog 83 #[.agg #[.int .i64 x0, .int .i64 x1, .int .i64 x2, .int .i64 x3, .int .i64 x4, .int .i64 x5, .string s]] w fun e w' => e = .returned (.agg #[.int .i64 x0, .int .i64 x1, .int .i64 x2, .int .i64 0, .int .i64 x4, .int .i64 x5, .string s]) ∧ Below w.heap.size w w' := by
  have WB : Below w.heap.size w ((w.alloc (.cells #[.int .i64 x0, .int .i64 x1, .int .i64 x2, .int .i64 x3, .int .i64 x4, .int .i64 x5, .string s] 75)).alloc (.cells #[.int .i64 0, .int .i64 0, .int .i64 0, .int .i64 0, .int .i64 0, .int .i64 0, .string ⟨#[]⟩] 75)) := ((Below.refl _ _).alloc (Nat.le_refl _) _).alloc (by simp) _
  have F1 := Free.new (w.alloc (.cells #[.int .i64 x0, .int .i64 x1, .int .i64 x2, .int .i64 x3, .int .i64 x4, .int .i64 x5, .string s] 75)) #[.int .i64 0, .int .i64 0, .int .i64 0, .int .i64 0, .int .i64 0, .int .i64 0, .string ⟨#[]⟩] 75
  have X0 := (Box7.new w x0 x1 x2 x3 x4 x5 s 75).alloc (.cells #[.int .i64 0, .int .i64 0, .int .i64 0, .int .i64 0, .int .i64 0, .int .i64 0, .string ⟨#[]⟩] 75)
  have F0 := (Free.new w #[.int .i64 x0, .int .i64 x1, .int .i64 x2, .int .i64 x3, .int .i64 x4, .int .i64 x5, .string s] 75).alloc (by simp) (.cells #[.int .i64 0, .int .i64 0, .int .i64 0, .int .i64 0, .int .i64 0, .int .i64 0, .string ⟨#[]⟩] 75)
  have X1 := Box7.new (w.alloc (.cells #[.int .i64 x0, .int .i64 x1, .int .i64 x2, .int .i64 x3, .int .i64 x4, .int .i64 x5, .string s] 75)) 0 0 0 0 0 0 ⟨#[]⟩ 75
  rw [World.size_alloc] at X1 F1
  go_enter Try.func83, Try.ntmps83
  go_upto_region 1 with fail
  generalize (w.alloc (.cells #[.int .i64 x0, .int .i64 x1, .int .i64 x2, .int .i64 x3, .int .i64 x4, .int .i64 x5, .string s] 75)).alloc (.cells #[.int .i64 0, .int .i64 0, .int .i64 0, .int .i64 0, .int .i64 0, .int .i64 0, .string ⟨#[]⟩] 75) = wx at *
  obtain ⟨p7, p0, p1, p2, p3, p4, p5, p6⟩ := X0
  obtain ⟨q7, q0, q1, q2, q3, q4, q5, q6⟩ := X1
  have f0 := F0 0
  have f1 := F0 1
  have f2 := F0 2
  have f3 := F0 3
  have f4 := F0 4
  have f5 := F0 5
  have f6 := F0 6
  have g0 := F1 0
  have g1 := F1 1
  have g2 := F1 2
  have g3 := F1 3
  have g4 := F1 4
  have g5 := F1 5
  have g6 := F1 6
  clear F0 F1
  go_wp2_with fail
  refine bodyPost_ret (v := .agg #[.int .i64 x0, .int .i64 x1, .int .i64 x2, .int .i64 0, .int .i64 x4, .int .i64 x5, .string s]) (by simp [results, Try.results83, go_sem, q0, q1, q2, q3, q4, q5, q6]) rfl ⟨rfl, ?_⟩
  exact below7 (WB.setCell (p := ⟨w.heap.size, 3, none⟩) (Nat.le_refl _) _) (Nat.le_succ _) _ _ _ _ _ _ _
set_option maxHeartbeats 1000000 in
set_option maxRecDepth 20000 in
theorem rmrev_any (x0 x1 x2 x3 x4 x5 : Int) (s : ByteArray) (w : World) : Calls Try.prog 84 #[.agg #[.int .i64 x0, .int .i64 x1, .int .i64 x2, .int .i64 x3, .int .i64 x4, .int .i64 x5, .string s]] w fun e w' => e = .returned (.agg #[.int .i64 x0, .int .i64 x1, .int .i64 x2, .int .i64 0, .int .i64 x4, .int .i64 x5, .string s]) ∧ Below w.heap.size w w' := by
  have WB : Below w.heap.size w ((w.alloc (.cells #[.int .i64 x0, .int .i64 x1, .int .i64 x2, .int .i64 x3, .int .i64 x4, .int .i64 x5, .string s] 75)).alloc (.cells #[.int .i64 0, .int .i64 0, .int .i64 0, .int .i64 0, .int .i64 0, .int .i64 0, .string ⟨#[]⟩] 75)) := ((Below.refl _ _).alloc (Nat.le_refl _) _).alloc (by simp) _
  have F1 := Free.new (w.alloc (.cells #[.int .i64 x0, .int .i64 x1, .int .i64 x2, .int .i64 x3, .int .i64 x4, .int .i64 x5, .string s] 75)) #[.int .i64 0, .int .i64 0, .int .i64 0, .int .i64 0, .int .i64 0, .int .i64 0, .string ⟨#[]⟩] 75
  have X0 := (Box7.new w x0 x1 x2 x3 x4 x5 s 75).alloc (.cells #[.int .i64 0, .int .i64 0, .int .i64 0, .int .i64 0, .int .i64 0, .int .i64 0, .string ⟨#[]⟩] 75)
  have F0 := (Free.new w #[.int .i64 x0, .int .i64 x1, .int .i64 x2, .int .i64 x3, .int .i64 x4, .int .i64 x5, .string s] 75).alloc (by simp) (.cells #[.int .i64 0, .int .i64 0, .int .i64 0, .int .i64 0, .int .i64 0, .int .i64 0, .string ⟨#[]⟩] 75)
  have X1 := Box7.new (w.alloc (.cells #[.int .i64 x0, .int .i64 x1, .int .i64 x2, .int .i64 x3, .int .i64 x4, .int .i64 x5, .string s] 75)) 0 0 0 0 0 0 ⟨#[]⟩ 75
  rw [World.size_alloc] at X1 F1
  go_enter Try.func84, Try.ntmps84
  go_upto_region 1 with fail
  generalize (w.alloc (.cells #[.int .i64 x0, .int .i64 x1, .int .i64 x2, .int .i64 x3, .int .i64 x4, .int .i64 x5, .string s] 75)).alloc (.cells #[.int .i64 0, .int .i64 0, .int .i64 0, .int .i64 0, .int .i64 0, .int .i64 0, .string ⟨#[]⟩] 75) = wx at *
  obtain ⟨p7, p0, p1, p2, p3, p4, p5, p6⟩ := X0
  obtain ⟨q7, q0, q1, q2, q3, q4, q5, q6⟩ := X1
  have f0 := F0 0
  have f1 := F0 1
  have f2 := F0 2
  have f3 := F0 3
  have f4 := F0 4
  have f5 := F0 5
  have f6 := F0 6
  have g0 := F1 0
  have g1 := F1 1
  have g2 := F1 2
  have g3 := F1 3
  have g4 := F1 4
  have g5 := F1 5
  have g6 := F1 6
  clear F0 F1
  go_wp2_with fail
  refine bodyPost_ret (v := .agg #[.int .i64 x0, .int .i64 x1, .int .i64 x2, .int .i64 0, .int .i64 x4, .int .i64 x5, .string s]) (by simp [results, Try.results84, go_sem, q0, q1, q2, q3, q4, q5, q6]) rfl ⟨rfl, ?_⟩
  exact below7 (WB.setCell (p := ⟨w.heap.size, 3, none⟩) (Nat.le_refl _) _) (Nat.le_succ _) _ _ _ _ _ _ _
set_option maxHeartbeats 1000000 in
set_option maxRecDepth 20000 in
theorem mrer_any (x0 x1 x2 x3 x4 x5 : Int) (s : ByteArray) (lo hi : Int) (w : World) : Calls Try.prog 85 #[.agg #[.int .i64 x0, .int .i64 x1, .int .i64 x2, .int .i64 x3, .int .i64 x4, .int .i64 x5, .string s], .int .i64 lo, .int .i64 hi] w fun e w' => e = .returned (.agg #[.int .i64 x0, .int .i64 (into x1 lo hi), .int .i64 x2, .int .i64 x3, .int .i64 x4, .int .i64 x5, .string s]) ∧ Below w.heap.size w w' := by
  have WB : Below w.heap.size w ((w.alloc (.cells #[.int .i64 x0, .int .i64 x1, .int .i64 x2, .int .i64 x3, .int .i64 x4, .int .i64 x5, .string s] 75)).alloc (.cells #[.int .i64 0, .int .i64 0, .int .i64 0, .int .i64 0, .int .i64 0, .int .i64 0, .string ⟨#[]⟩] 75)) := ((Below.refl _ _).alloc (Nat.le_refl _) _).alloc (by simp) _
  have F1 := Free.new (w.alloc (.cells #[.int .i64 x0, .int .i64 x1, .int .i64 x2, .int .i64 x3, .int .i64 x4, .int .i64 x5, .string s] 75)) #[.int .i64 0, .int .i64 0, .int .i64 0, .int .i64 0, .int .i64 0, .int .i64 0, .string ⟨#[]⟩] 75
  have X0 := (Box7.new w x0 x1 x2 x3 x4 x5 s 75).alloc (.cells #[.int .i64 0, .int .i64 0, .int .i64 0, .int .i64 0, .int .i64 0, .int .i64 0, .string ⟨#[]⟩] 75)
  have F0 := (Free.new w #[.int .i64 x0, .int .i64 x1, .int .i64 x2, .int .i64 x3, .int .i64 x4, .int .i64 x5, .string s] 75).alloc (by simp) (.cells #[.int .i64 0, .int .i64 0, .int .i64 0, .int .i64 0, .int .i64 0, .int .i64 0, .string ⟨#[]⟩] 75)
  have X1 := Box7.new (w.alloc (.cells #[.int .i64 x0, .int .i64 x1, .int .i64 x2, .int .i64 x3, .int .i64 x4, .int .i64 x5, .string s] 75)) 0 0 0 0 0 0 ⟨#[]⟩ 75
  rw [World.size_alloc] at X1 F1
  go_enter Try.func85, Try.ntmps85
  go_upto_region 1 with fail
  generalize (w.alloc (.cells #[.int .i64 x0, .int .i64 x1, .int .i64 x2, .int .i64 x3, .int .i64 x4, .int .i64 x5, .string s] 75)).alloc (.cells #[.int .i64 0, .int .i64 0, .int .i64 0, .int .i64 0, .int .i64 0, .int .i64 0, .string ⟨#[]⟩] 75) = wx at *
  obtain ⟨p7, p0, p1, p2, p3, p4, p5, p6⟩ := X0
  obtain ⟨q7, q0, q1, q2, q3, q4, q5, q6⟩ := X1
  have f0 := F0 0
  have f1 := F0 1
  have f2 := F0 2
  have f3 := F0 3
  have f4 := F0 4
  have f5 := F0 5
  have f6 := F0 6
  have g0 := F1 0
  have g1 := F1 1
  have g2 := F1 2
  have g3 := F1 3
  have g4 := F1 4
  have g5 := F1 5
  have g6 := F1 6
  clear F0 F1
  go_wp2_with (first
    | (go_at_call 41; refine (into_any _ _ _ _).mono ?_; rintro e w' ⟨rfl, rfl⟩))
  refine bodyPost_ret (v := .agg #[.int .i64 x0, .int .i64 (into x1 lo hi), .int .i64 x2, .int .i64 x3, .int .i64 x4, .int .i64 x5, .string s]) (by simp [results, Try.results85, go_sem, q0, q1, q2, q3, q4, q5, q6]) rfl ⟨rfl, ?_⟩
  exact below7 (WB.setCell (p := ⟨w.heap.size, 1, none⟩) (Nat.le_refl _) _) (Nat.le_succ _) _ _ _ _ _ _ _
set_option maxHeartbeats 1000000 in
set_option maxRecDepth 20000 in
theorem rmrer_any (x0 x1 x2 x3 x4 x5 : Int) (s : ByteArray) (lo hi : Int) (w : World) : Calls Try.prog 86 #[.agg #[.int .i64 x0, .int .i64 x1, .int .i64 x2, .int .i64 x3, .int .i64 x4, .int .i64 x5, .string s], .int .i64 lo, .int .i64 hi] w fun e w' => e = .returned (.agg #[.int .i64 x0, .int .i64 (into x1 lo hi), .int .i64 x2, .int .i64 x3, .int .i64 x4, .int .i64 x5, .string s]) ∧ Below w.heap.size w w' := by
  have WB : Below w.heap.size w ((w.alloc (.cells #[.int .i64 x0, .int .i64 x1, .int .i64 x2, .int .i64 x3, .int .i64 x4, .int .i64 x5, .string s] 75)).alloc (.cells #[.int .i64 0, .int .i64 0, .int .i64 0, .int .i64 0, .int .i64 0, .int .i64 0, .string ⟨#[]⟩] 75)) := ((Below.refl _ _).alloc (Nat.le_refl _) _).alloc (by simp) _
  have F1 := Free.new (w.alloc (.cells #[.int .i64 x0, .int .i64 x1, .int .i64 x2, .int .i64 x3, .int .i64 x4, .int .i64 x5, .string s] 75)) #[.int .i64 0, .int .i64 0, .int .i64 0, .int .i64 0, .int .i64 0, .int .i64 0, .string ⟨#[]⟩] 75
  have X0 := (Box7.new w x0 x1 x2 x3 x4 x5 s 75).alloc (.cells #[.int .i64 0, .int .i64 0, .int .i64 0, .int .i64 0, .int .i64 0, .int .i64 0, .string ⟨#[]⟩] 75)
  have F0 := (Free.new w #[.int .i64 x0, .int .i64 x1, .int .i64 x2, .int .i64 x3, .int .i64 x4, .int .i64 x5, .string s] 75).alloc (by simp) (.cells #[.int .i64 0, .int .i64 0, .int .i64 0, .int .i64 0, .int .i64 0, .int .i64 0, .string ⟨#[]⟩] 75)
  have X1 := Box7.new (w.alloc (.cells #[.int .i64 x0, .int .i64 x1, .int .i64 x2, .int .i64 x3, .int .i64 x4, .int .i64 x5, .string s] 75)) 0 0 0 0 0 0 ⟨#[]⟩ 75
  rw [World.size_alloc] at X1 F1
  go_enter Try.func86, Try.ntmps86
  go_upto_region 1 with fail
  generalize (w.alloc (.cells #[.int .i64 x0, .int .i64 x1, .int .i64 x2, .int .i64 x3, .int .i64 x4, .int .i64 x5, .string s] 75)).alloc (.cells #[.int .i64 0, .int .i64 0, .int .i64 0, .int .i64 0, .int .i64 0, .int .i64 0, .string ⟨#[]⟩] 75) = wx at *
  obtain ⟨p7, p0, p1, p2, p3, p4, p5, p6⟩ := X0
  obtain ⟨q7, q0, q1, q2, q3, q4, q5, q6⟩ := X1
  have f0 := F0 0
  have f1 := F0 1
  have f2 := F0 2
  have f3 := F0 3
  have f4 := F0 4
  have f5 := F0 5
  have f6 := F0 6
  have g0 := F1 0
  have g1 := F1 1
  have g2 := F1 2
  have g3 := F1 3
  have g4 := F1 4
  have g5 := F1 5
  have g6 := F1 6
  clear F0 F1
  go_wp2_with (first
    | (go_at_call 64; refine (refinto_any _ _ _ _).mono ?_; rintro e w' ⟨rfl, rfl⟩))
  refine bodyPost_ret (v := .agg #[.int .i64 x0, .int .i64 (into x1 lo hi), .int .i64 x2, .int .i64 x3, .int .i64 x4, .int .i64 x5, .string s]) (by simp [results, Try.results86, go_sem, q0, q1, q2, q3, q4, q5, q6]) rfl ⟨rfl, ?_⟩
  exact below7 (WB.setCell (p := ⟨w.heap.size, 1, none⟩) (Nat.le_refl _) _) (Nat.le_succ _) _ _ _ _ _ _ _
end Go.Proofs.Ytaoiekcoiooghaa
