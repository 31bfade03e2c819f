/- The walk of 'HandleRaw': it returns true. No condition. -/
import Derived.Test.YtaoiekcoiooghaaHn6
namespace Go.Proofs.Ytaoiekcoiooghaa
open Go.RowKit
set_option maxHeartbeats 4000000 in
set_option maxRecDepth 20000 in
theorem handleRaw_walk (x00 x01 x02 x03 : Int) (A1 : Option Addr) (n1 c1 : Nat) (l1 : List UInt8) (w : World) (_w00 : -9223372036854775808 ≤ x00 ∧ x00 ≤ 9223372036854775807) (_w01 : -9223372036854775808 ≤ x01 ∧ x01 ≤ 9223372036854775807) (_w02 : -9223372036854775808 ≤ x02 ∧ x02 ≤ 9223372036854775807) (_w03 : -9223372036854775808 ≤ x03 ∧ x03 ≤ 9223372036854775807) (w1 : Reads w w.heap.size A1 n1 (bvs l1)) (k1 : n1 ≤ c1) (m1 : c1 ≤ maxLen) :
    Calls Try.prog 19 #[.agg #[.int .i64 x00, .int .i64 x01, .int .i64 x02, .int .i64 x03], .slice A1 n1 c1] w fun e w' => e = .returned (.bool true) ∧ Below w.heap.size w w' := by
  clear _w00 _w01 _w02 _w03
  by_cases h100 : (100 : Int) < (n1 : Int)
  · go_enter Try.func19, Try.ntmps19
    go_wp2_with fail
    go_ret
    exact ⟨rfl, (Below.refl _ _).alloc (Nat.le_refl _) _⟩
  · go_enter Try.func19, Try.ntmps19
    go_wp2_with fail
    have WB : Below w.heap.size w (w.alloc (.cells #[.int .i64 x00, .int .i64 x01, .int .i64 x02, .int .i64 x03] 58)) := (Below.refl _ _).alloc (Nat.le_refl _) _
    have X0 := Box4.new w (.int .i64 x00) (.int .i64 x01) (.int .i64 x02) (.int .i64 x03) 58
    have hr0 := w1.alloc (Nat.le_refl _) (.cells #[.int .i64 x00, .int .i64 x01, .int .i64 x02, .int .i64 x03] 58)
    refine (henc_any _ _ _ _ _).mono ?_
    rintro e wa ⟨va, he, howna, hba⟩
    have W1 := WB.trans (hba.mono WB.size)
    have X1 := X0.below hba X0.1
    have hr1 := hr0.below (hba.mono WB.size)
    obtain ⟨Aa, ca, hva, hca, hma, hqa⟩ := howna.shape
    have X1' := X1
    obtain ⟨_, q0, q1, q2, q3⟩ := X1'
    subst he hva
    clear howna WB X0 hr0 hba
    go_wp2_with fail
    refine (rhenc_any _ _ _ _ _).mono ?_
    rintro e wb ⟨vb, he, hownb, hbb⟩
    have W2 := W1.trans (hbb.mono W1.size)
    have X2 := X1.below hbb X1.1
    have hr2 := hr1.below (hbb.mono W1.size)
    have hqa2 := hqa.below hbb
    obtain ⟨Ab, cb, hvb, hcb, hmb, hqb⟩ := hownb.shape
    subst he hvb
    clear hownb X1 hr1 hqa q0 q1 q2 q3 W1
    go_wp2_with fail
    obtain ⟨p0, p1, p2, p3, hpv⟩ : ∃ p0 p1 p2 p3 : Int, parV l1 = .agg #[.int .i64 p0, .int .i64 p1, .int .i64 p2, .int .i64 p3] := by
      unfold parV
      split
      · exact ⟨_, _, _, _, rfl⟩
      · exact ⟨_, _, _, _, rfl⟩
    generalize hpe : parE l1 = pe
    have HPV := hide hpv
    have HPE := hide hpe
    clear hpv hpe
    refine (parse_any l1 _ _ _ _ _ hr2 W2.size k1 m1).mono ?_
    rintro e wc ⟨he, hbc⟩
    rw [HPV.out, HPE.out] at he
    subst he
    have W3 := W2.trans (hbc.mono W2.size)
    have hr3 := hr2.below (hbc.mono W2.size)
    have hqa3 := (hqa2.more hbb.size).below hbc
    have hqb3 := hqb.below hbc
    clear hr2 hqa2 hqb X2 W2
    go_wp2_with fail
    have B3 : Below wc.heap.size wc (wc.alloc (.cells #[.int .i64 p0, .int .i64 p1, .int .i64 p2, .int .i64 p3] 58)) := (Below.refl _ _).alloc (Nat.le_refl _) _
    have X3 := Box4.new wc (.int .i64 p0) (.int .i64 p1) (.int .i64 p2) (.int .i64 p3) 58
    have W4 := W3.trans (B3.mono W3.size)
    have hr4 := hr3.below (B3.mono W3.size)
    have hqa4 := hqa3.below (B3.mono hbc.size)
    have hqb4 := hqb3.below (B3.mono hbc.size)
    clear hr3 hqa3 hqb3 W3 B3
    refine (rparse_any l1 _ _ _ _ _ hr4 W4.size k1 m1).mono ?_
    rintro e wd ⟨he, hbd⟩
    rw [HPV.out, HPE.out] at he
    subst he
    have X4 := X3.below hbd X3.1
    have W5 := W4.trans (hbd.mono W4.size)
    have hqa5 := hqa4.below (hbd.mono (Nat.le_trans hbc.size (by simp)))
    have hqb5 := hqb4.below (hbd.mono (Nat.le_trans hbc.size (by simp)))
    have B5 : Below wd.heap.size wd (wd.alloc (.cells #[.int .i64 p0, .int .i64 p1, .int .i64 p2, .int .i64 p3] 58)) := (Below.refl _ _).alloc (Nat.le_refl _) _
    have X5 := X4.below B5 X4.1
    have Y5 := Box4.new wd (.int .i64 p0) (.int .i64 p1) (.int .i64 p2) (.int .i64 p3) 58
    have W6 := W5.trans (B5.mono W5.size)
    have hqa6 := hqa5.below (B5.mono (Nat.le_trans (Nat.le_trans hbc.size (by simp)) hbd.size))
    have hqb6 := hqb5.below (B5.mono (Nat.le_trans (Nat.le_trans hbc.size (by simp)) hbd.size))
    obtain ⟨_, q0, q1, q2, q3⟩ := X5
    obtain ⟨_, r0, r1, r2, r3⟩ := Y5
    clear X3 X4 hr4 hqa4 hqb4 hqa5 hqb5 W4 hbc hbd B5
    go_wp2_with (first
      | (go_at_call 47; refine (same_any _ _ _ _ _ _ _ _ _ _ _ hqa6 hqb6).mono ?_; rintro e w' ⟨rfl, rfl⟩)
      | (go_at_call 50; refine (hawake_any _).mono ?_; rintro e w' ⟨rfl, hb⟩))
    go_ret
    first | exact ⟨rfl, W6.trans (hb.mono W6.size)⟩ | exact ⟨by simp, W6.trans (hb.mono W6.size)⟩
end Go.Proofs.Ytaoiekcoiooghaa
