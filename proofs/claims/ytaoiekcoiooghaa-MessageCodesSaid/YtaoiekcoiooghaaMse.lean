/- The contract of the messages' Encode of the program. No condition. -/
import Derived.Test.YtaoiekcoiooghaaMsd
namespace Go.Proofs.Ytaoiekcoiooghaa
open Go.RowKit
set_option maxHeartbeats 4000000 in
set_option maxRecDepth 20000 in
theorem menc_ok (x0 x1 x2 x3 x4 x5 : Int) (s : ByteArray) (w : World) (hz : mvE x0 x1 x2 x3 x4 x5 s.size = 0) : Calls Try.prog 88 #[.agg #[.int .i64 x0, .int .i64 x1, .int .i64 x2, .int .i64 x3, .int .i64 x4, .int .i64 x5, .string s]] w (RetB w (meL x0 x1 x2 x3 x4 x5 s) 0) := by
  have i0 : ∀ w, (Instr.index 42 (.agg #[.int .i64 x0, .int .i64 x1, .int .i64 x2, .int .i64 x3, .int .i64 x4, .int .i64 x5]) (.int .i64 0)).run Try.prog w = .ok (.int .i64 x0) w := fun _ => by kernel_rfl
  have i1 : ∀ w, (Instr.index 42 (.agg #[.int .i64 x0, .int .i64 x1, .int .i64 x2, .int .i64 x3, .int .i64 x4, .int .i64 x5]) (.int .i64 1)).run Try.prog w = .ok (.int .i64 x1) w := fun _ => by kernel_rfl
  have i2 : ∀ w, (Instr.index 42 (.agg #[.int .i64 x0, .int .i64 x1, .int .i64 x2, .int .i64 x3, .int .i64 x4, .int .i64 x5]) (.int .i64 2)).run Try.prog w = .ok (.int .i64 x2) w := fun _ => by kernel_rfl
  have i3 : ∀ w, (Instr.index 42 (.agg #[.int .i64 x0, .int .i64 x1, .int .i64 x2, .int .i64 x3, .int .i64 x4, .int .i64 x5]) (.int .i64 3)).run Try.prog w = .ok (.int .i64 x3) w := fun _ => by kernel_rfl
  have i4 : ∀ w, (Instr.index 42 (.agg #[.int .i64 x0, .int .i64 x1, .int .i64 x2, .int .i64 x3, .int .i64 x4, .int .i64 x5]) (.int .i64 4)).run Try.prog w = .ok (.int .i64 x4) w := fun _ => by kernel_rfl
  have i5 : ∀ w, (Instr.index 42 (.agg #[.int .i64 x0, .int .i64 x1, .int .i64 x2, .int .i64 x3, .int .i64 x4, .int .i64 x5]) (.int .i64 5)).run Try.prog w = .ok (.int .i64 x5) w := fun _ => by kernel_rfl
  obtain ⟨T1, T2, T3, T4, T5, T6, e1, z1, e2, z2, e3, z3, e4, z4, e5, z5, e6, z6, e7, z7, n1, n2, n3, n4, n5, n6⟩ := enc_parts hz
  have E1 := hide e1
  have Z1 := hide z1
  have E2 := hide e2
  have Z2 := hide z2
  have E3 := hide e3
  have Z3 := hide z3
  have E4 := hide e4
  have Z4 := hide z4
  have E5 := hide e5
  have Z5 := hide z5
  have E6 := hide e6
  have Z6 := hide z6
  have E7 := hide e7
  have Z7 := hide z7
  clear e1 z1 e2 z2 e3 z3 e4 z4 e5 z5 e6 z6 e7 z7
  have HM := hide hz
  clear hz
  have WB : Below w.heap.size w (w.alloc (.cells #[.int .i64 x0, .int .i64 x1, .int .i64 x2, .int .i64 x3, .int .i64 x4, .int .i64 x5, .string s] 75)) := (Below.refl _ _).alloc (Nat.le_refl _) _
  have X0 := Box7.new w x0 x1 x2 x3 x4 x5 s 75
  go_enter Try.func88, Try.ntmps88
  go_wp2_with fail
  refine (mval_any _ _ _ _ _ _ _ _).mono ?_
  rintro e w0 ⟨he, hb0⟩
  rw [HM.out] at he
  subst he
  have W0 := WB.trans (hb0.mono WB.size)
  have Y0 := X0.below hb0 X0.1
  have Y0' := Y0
  obtain ⟨_, q0, q1, q2, q3, q4, q5, q6⟩ := Y0'
  clear hb0 X0 WB
  go_wp2_with fail
  clear q0 q1 q2 q3 q4 q5 q6
  refine wp_loop_rounds 7 ?_
  rw [rounds_succ]
  go_wp2_with fail
  refine (putvar_any [] 0 _ _ _ x0 _ (Reads.none_ : Reads _ 0 none 0 (bvs [])) (by decide)).mono ?_
  rintro e w1 ⟨v1, he, hown1, hb1⟩
  rw [Z1.out] at he
  rw [E1.out] at hown1
  subst he
  obtain ⟨A1, c1, hv1, hc1, hm1, hr1⟩ := hown1.shape
  subst hv1
  have W1 := W0.trans (hb1.mono W0.size)
  have Y1 := Y0.below hb1 Y0.1
  clear hown1 hb1 W0 Y0
  go_wp2_with fail
  rw [rounds_succ]
  go_wp2_with fail
  refine (putvar_any T1 _ _ _ _ x1 _ (hr1) (by omega)).mono ?_
  rintro e w2 ⟨v2, he, hown2, hb2⟩
  rw [Z2.out] at he
  rw [E2.out] at hown2
  subst he
  obtain ⟨A2, c2, hv2, hc2, hm2, hr2⟩ := hown2.shape
  subst hv2
  have W2 := W1.trans (hb2.mono W1.size)
  have Y2 := Y1.below hb2 Y1.1
  clear hown2 hb2 W1 Y1
  go_wp2_with fail
  rw [rounds_succ]
  go_wp2_with fail
  refine (putvar_any T2 _ _ _ _ x2 _ (hr2) (by omega)).mono ?_
  rintro e w3 ⟨v3, he, hown3, hb3⟩
  rw [Z3.out] at he
  rw [E3.out] at hown3
  subst he
  obtain ⟨A3, c3, hv3, hc3, hm3, hr3⟩ := hown3.shape
  subst hv3
  have W3 := W2.trans (hb3.mono W2.size)
  have Y3 := Y2.below hb3 Y2.1
  clear hown3 hb3 W2 Y2
  go_wp2_with fail
  rw [rounds_succ]
  go_wp2_with fail
  refine (putvar_any T3 _ _ _ _ x3 _ (hr3) (by omega)).mono ?_
  rintro e w4 ⟨v4, he, hown4, hb4⟩
  rw [Z4.out] at he
  rw [E4.out] at hown4
  subst he
  obtain ⟨A4, c4, hv4, hc4, hm4, hr4⟩ := hown4.shape
  subst hv4
  have W4 := W3.trans (hb4.mono W3.size)
  have Y4 := Y3.below hb4 Y3.1
  clear hown4 hb4 W3 Y3
  go_wp2_with fail
  rw [rounds_succ]
  go_wp2_with fail
  refine (putvar_any T4 _ _ _ _ x4 _ (hr4) (by omega)).mono ?_
  rintro e w5 ⟨v5, he, hown5, hb5⟩
  rw [Z5.out] at he
  rw [E5.out] at hown5
  subst he
  obtain ⟨A5, c5, hv5, hc5, hm5, hr5⟩ := hown5.shape
  subst hv5
  have W5 := W4.trans (hb5.mono W4.size)
  have Y5 := Y4.below hb5 Y4.1
  clear hown5 hb5 W4 Y4
  go_wp2_with fail
  rw [rounds_succ]
  go_wp2_with fail
  refine (putvar_any T5 _ _ _ _ x5 _ (hr5) (by omega)).mono ?_
  rintro e w6 ⟨v6, he, hown6, hb6⟩
  rw [Z6.out] at he
  rw [E6.out] at hown6
  subst he
  obtain ⟨A6, c6, hv6, hc6, hm6, hr6⟩ := hown6.shape
  subst hv6
  have W6 := W5.trans (hb6.mono W5.size)
  have Y6 := Y5.below hb6 Y5.1
  clear hown6 hb6 W5 Y5
  go_wp2_with fail
  rw [rounds_succ]
  obtain ⟨_, q0, q1, q2, q3, q4, q5, q6⟩ := Y6
  go_wp2_with fail
  refine (puttext_any T6 _ _ _ _ _ _ _ hr6 (by omega)).mono ?_
  rintro e w7 ⟨v7, he, hown7, hb7⟩
  rw [Z7.out] at he
  rw [E7.out] at hown7
  subst he
  have W7 := W6.trans (hb7.mono W6.size)
  have hown7' := hown7.less W6.size
  clear q0 q1 q2 q3 q4 q5 q6
  go_wp2_with fail
  go_ret2
  exact ⟨_, rfl, hown7', W7⟩
set_option maxHeartbeats 2000000 in
set_option maxRecDepth 20000 in
theorem menc_any (x0 x1 x2 x3 x4 x5 : Int) (s : ByteArray) (w : World) : Calls Try.prog 88 #[.agg #[.int .i64 x0, .int .i64 x1, .int .i64 x2, .int .i64 x3, .int .i64 x4, .int .i64 x5, .string s]] w (RetB w (meL x0 x1 x2 x3 x4 x5 s) (mvE x0 x1 x2 x3 x4 x5 s.size)) := by
  by_cases hz : mvE x0 x1 x2 x3 x4 x5 s.size = 0
  · rw [hz]
    exact menc_ok x0 x1 x2 x3 x4 x5 s w hz
  · rw [meL_err hz]
    generalize hx : mvE x0 x1 x2 x3 x4 x5 s.size = z at *
    have hz' : (z != 0) = true := by rw [bne_iff_ne]; exact hz
    have HM := hide hx
    clear hz hx
    have WB : Below w.heap.size w (w.alloc (.cells #[.int .i64 x0, .int .i64 x1, .int .i64 x2, .int .i64 x3, .int .i64 x4, .int .i64 x5, .string s] 75)) := (Below.refl _ _).alloc (Nat.le_refl _) _
    go_enter Try.func88, Try.ntmps88
    go_wp2_with fail
    refine (mval_any _ _ _ _ _ _ _ _).mono ?_
    rintro e w0 ⟨he, hb0⟩
    rw [HM.out] at he
    subst he
    have W0 := WB.trans (hb0.mono WB.size)
    go_wp2_with fail
    go_ret2
    exact ⟨_, rfl, OwnB.nil _ _, W0⟩
end Go.Proofs.Ytaoiekcoiooghaa
