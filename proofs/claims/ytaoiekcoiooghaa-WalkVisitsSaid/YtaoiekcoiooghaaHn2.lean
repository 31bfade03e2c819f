/- The contract of the receipt handles' Encode of the program at valid handles. No condition. -/
import Derived.Test.YtaoiekcoiooghaaHan
namespace Go.Proofs.Ytaoiekcoiooghaa
open Go.RowKit

set_option maxHeartbeats 4000000 in
set_option maxRecDepth 20000 in
theorem henc_ok (i g r h : Int) (w : World) (hk : HOk i g r h) :
    Calls Try.prog 49 #[.agg #[.int .i64 i, .int .i64 g, .int .i64 r, .int .i64 h]] w (RetB w (tok i.toNat g.toNat r.toNat h.toNat) 0) := by
  obtain ⟨T1, T2, T3, T4, T5, e1, z1, e2, z2, e3, z3, e4, z4, e5, z5, _, e6, n1, n2, n3, n4, n5⟩ := tok_parts hk
  obtain ⟨h1, h2, h3, h4, h5, h6, h7, h8⟩ := hk
  have E1 := hide e1
  have Z1 := hide z1
  have E2 := hide e2
  have Z2 := hide z2
  have E3 := hide e3
  have Z3 := hide z3
  have E4 := hide e4
  have Z4 := hide z4
  have E5 := hide e5
  have Z5 := hide z5
  have E6 := hide e6
  clear e1 z1 e2 z2 e3 z3 e4 z4 e5 z5 e6
  have hown0 : OwnB ((w.alloc (.cells #[.int .i64 i, .int .i64 g, .int .i64 r, .int .i64 h] 58)).alloc (.cells #[.int .u8 113] 5)) w.heap.size (.slice (some ⟨w.heap.size + 1, 0, none⟩) 1 1) [113] :=
    own_lit1 _ 113 113 _ (by simp) (by simp) (by decide)
  have W0 : Below w.heap.size w ((w.alloc (.cells #[.int .i64 i, .int .i64 g, .int .i64 r, .int .i64 h] 58)).alloc (.cells #[.int .u8 113] 5)) := ((Below.refl _ _).alloc (Nat.le_refl _) _).alloc (by simp) _
  have i0 : ∀ w, (Instr.index 115 (.agg #[.int .i64 i, .int .i64 4, .int .i64 g, .int .i64 3, .int .i64 r, .int .i64 2, .int .i64 h, .int .i64 1, .int .i64 0, .int .i64 1]) (.int .i64 0)).run Try.prog w = .ok (.agg #[.int .i64 i, .int .i64 4]) w := fun _ => by kernel_rfl
  have i1 : ∀ w, (Instr.index 115 (.agg #[.int .i64 i, .int .i64 4, .int .i64 g, .int .i64 3, .int .i64 r, .int .i64 2, .int .i64 h, .int .i64 1, .int .i64 0, .int .i64 1]) (.int .i64 1)).run Try.prog w = .ok (.agg #[.int .i64 g, .int .i64 3]) w := fun _ => by kernel_rfl
  have i2 : ∀ w, (Instr.index 115 (.agg #[.int .i64 i, .int .i64 4, .int .i64 g, .int .i64 3, .int .i64 r, .int .i64 2, .int .i64 h, .int .i64 1, .int .i64 0, .int .i64 1]) (.int .i64 2)).run Try.prog w = .ok (.agg #[.int .i64 r, .int .i64 2]) w := fun _ => by kernel_rfl
  have i3 : ∀ w, (Instr.index 115 (.agg #[.int .i64 i, .int .i64 4, .int .i64 g, .int .i64 3, .int .i64 r, .int .i64 2, .int .i64 h, .int .i64 1, .int .i64 0, .int .i64 1]) (.int .i64 3)).run Try.prog w = .ok (.agg #[.int .i64 h, .int .i64 1]) w := fun _ => by kernel_rfl
  have i4 : ∀ w, (Instr.index 115 (.agg #[.int .i64 i, .int .i64 4, .int .i64 g, .int .i64 3, .int .i64 r, .int .i64 2, .int .i64 h, .int .i64 1, .int .i64 0, .int .i64 1]) (.int .i64 4)).run Try.prog w = .ok (.agg #[.int .i64 0, .int .i64 1]) w := fun _ => by kernel_rfl
  go_enter Try.func49, Try.ntmps49
  go_wp2_with fail
  refine (hin_yes _ _ _ _ h1 h2).mono ?_; rintro e w' ⟨rfl, rfl⟩
  go_wp2_with fail
  refine (hin_yes _ _ _ _ h3 h4).mono ?_; rintro e w' ⟨rfl, rfl⟩
  go_wp2_with fail
  refine (hin_yes _ _ _ _ h5 h6).mono ?_; rintro e w' ⟨rfl, rfl⟩
  go_wp2_with fail
  refine (hin_yes _ _ _ _ h7 h8).mono ?_; rintro e w' ⟨rfl, rfl⟩
  go_wp2_with fail
  refine wp_loop_rounds 6 ?_
  rw [rounds_succ]
  go_wp2_with fail
  refine (put_any [113] _ _ _ _ i 4 _ ((hown0.alloc _).reads.2) (by first | decide | omega)).mono ?_
  rintro e w1 ⟨v1, he, hown1, hb1⟩
  rw [Z1.out] at he
  rw [E1.out] at hown1
  subst he
  obtain ⟨A1, c1, hv1, hc1, hm1, hr1⟩ := hown1.shape
  subst hv1
  have W1' := W0.alloc W0.size (.cells #[.int .i64 i, .int .i64 4] 114)
  have W1 := W1'.trans (hb1.mono W1'.size)
  clear hown1 hb1 W1'
  go_wp2_with fail
  rw [rounds_succ]
  go_wp2_with fail
  refine (put_any T1 _ _ _ _ g 3 _ (hr1.alloc (Nat.le_refl _) _) (by first | decide | omega)).mono ?_
  rintro e w2 ⟨v2, he, hown2, hb2⟩
  rw [Z2.out] at he
  rw [E2.out] at hown2
  subst he
  obtain ⟨A2, c2, hv2, hc2, hm2, hr2⟩ := hown2.shape
  subst hv2
  have W2' := W1.alloc W1.size (.cells #[.int .i64 g, .int .i64 3] 114)
  have W2 := W2'.trans (hb2.mono W2'.size)
  clear hown2 hb2 W2'
  go_wp2_with fail
  rw [rounds_succ]
  go_wp2_with fail
  refine (put_any T2 _ _ _ _ r 2 _ (hr2.alloc (Nat.le_refl _) _) (by first | decide | omega)).mono ?_
  rintro e w3 ⟨v3, he, hown3, hb3⟩
  rw [Z3.out] at he
  rw [E3.out] at hown3
  subst he
  obtain ⟨A3, c3, hv3, hc3, hm3, hr3⟩ := hown3.shape
  subst hv3
  have W3' := W2.alloc W2.size (.cells #[.int .i64 r, .int .i64 2] 114)
  have W3 := W3'.trans (hb3.mono W3'.size)
  clear hown3 hb3 W3'
  go_wp2_with fail
  rw [rounds_succ]
  go_wp2_with fail
  refine (put_any T3 _ _ _ _ h 1 _ (hr3.alloc (Nat.le_refl _) _) (by first | decide | omega)).mono ?_
  rintro e w4 ⟨v4, he, hown4, hb4⟩
  rw [Z4.out] at he
  rw [E4.out] at hown4
  subst he
  obtain ⟨A4, c4, hv4, hc4, hm4, hr4⟩ := hown4.shape
  subst hv4
  have W4' := W3.alloc W3.size (.cells #[.int .i64 h, .int .i64 1] 114)
  have W4 := W4'.trans (hb4.mono W4'.size)
  clear hown4 hb4 W4'
  go_wp2_with fail
  rw [rounds_succ]
  go_wp2_with fail
  refine (put_any T4 _ _ _ _ 0 1 _ (hr4.alloc (Nat.le_refl _) _) (by first | decide | omega)).mono ?_
  rintro e w5 ⟨v5, he, hown5, hb5⟩
  rw [Z5.out] at he
  rw [E5.out] at hown5
  subst he
  obtain ⟨A5, c5, hv5, hc5, hm5, hr5⟩ := hown5.shape
  subst hv5
  have W5' := W4.alloc W4.size (.cells #[.int .i64 0, .int .i64 1] 114)
  have W5 := W5'.trans (hb5.mono W5'.size)
  clear hown5 hb5 W5'
  go_wp2_with fail
  rw [rounds_succ]
  go_wp2_with fail
  refine (digcheck_any T5 _ _ _ _ _ hr5 (Nat.le_refl _) (by simp only [maxLen]; omega)).mono ?_
  rintro e w6 ⟨rfl, hb6⟩
  have W6 := W5.trans (hb6.mono W5.size)
  have hr6 := hr5.below hb6
  obtain ⟨e6, z6⟩ := E6.out _ rfl
  have E7 := hide e6
  have Z7 := hide z6
  clear e6 z6
  go_wp2_with fail
  refine (put_any T5 _ _ _ _ _ 4 _ hr6 (by omega)).mono ?_
  rintro e w7 ⟨v7, he, hown7, hb7⟩
  rw [Z7.out] at he
  rw [E7.out] at hown7
  subst he
  have W7 := W6.trans (hb7.mono W6.size)
  have hown7' := hown7.less W6.size
  clear hown7 hb7 W5 W6 hb6
  go_wp2_with fail
  go_ret2
  exact ⟨_, rfl, hown7', W7⟩

theorem henc_any (i g r h : Int) (w : World) : Calls Try.prog 49 #[.agg #[.int .i64 i, .int .i64 g, .int .i64 r, .int .i64 h]] w (RetB w (encL i g r h) (encE i g r h)) := by
  by_cases hk : HOk i g r h
  · have e1 : encL i g r h = tok i.toNat g.toNat r.toNat h.toNat := by rw [encL, if_pos hk]
    have e2 : encE i g r h = 0 := by rw [encE, if_pos hk]
    rw [e1, e2]
    exact henc_ok i g r h w hk
  · have e1 : encL i g r h = [] := by rw [encL, if_neg hk]
    have e2 : encE i g r h = 1 := by rw [encE, if_neg hk]
    rw [e1, e2]
    exact henc_err i g r h w hk
theorem rhenc_any (i g r h : Int) (w : World) : Calls Try.prog 76 #[.agg #[.int .i64 i, .int .i64 g, .int .i64 r, .int .i64 h]] w (RetB w (encL i g r h) (encE i g r h)) := by
  by_cases hk : HOk i g r h
  · have e1 : encL i g r h = tok i.toNat g.toNat r.toNat h.toNat := by rw [encL, if_pos hk]
    have e2 : encE i g r h = 0 := by rw [encE, if_pos hk]
    rw [e1, e2]
    exact rhenc_ok i g r h w hk
  · have e1 : encL i g r h = [] := by rw [encL, if_neg hk]
    have e2 : encE i g r h = 1 := by rw [encE, if_neg hk]
    rw [e1, e2]
    exact rhenc_err i g r h w hk
end Go.Proofs.Ytaoiekcoiooghaa
