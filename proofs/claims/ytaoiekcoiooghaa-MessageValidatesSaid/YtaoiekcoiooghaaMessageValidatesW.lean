/- The walk of 'MessageValidates': it returns true. No condition. -/
import Derived.Test.YtaoiekcoiooghaaMessageStatesW
namespace Go.Proofs.Ytaoiekcoiooghaa
open Go.RowKit
theorem keepM3 {w W W' : World} {b b1 b2 : Nat} {y0 y1 y2 y3 y4 y5 y6 u0 u1 u2 u3 u4 u5 u6 t0 t1 t2 t3 t4 t5 t6 : Value} (h : W.cell? ⟨b, 0, none⟩ = some (y0) ∧ W.cell? ⟨b, 1, none⟩ = some (y1) ∧ W.cell? ⟨b, 2, none⟩ = some (y2) ∧ W.cell? ⟨b, 3, none⟩ = some (y3) ∧ W.cell? ⟨b, 4, none⟩ = some (y4) ∧ W.cell? ⟨b, 5, none⟩ = some (y5) ∧ W.cell? ⟨b, 6, none⟩ = some (y6) ∧ W.cell? ⟨b1, 0, none⟩ = some (u0) ∧ W.cell? ⟨b1, 1, none⟩ = some (u1) ∧ W.cell? ⟨b1, 2, none⟩ = some (u2) ∧ W.cell? ⟨b1, 3, none⟩ = some (u3) ∧ W.cell? ⟨b1, 4, none⟩ = some (u4) ∧ W.cell? ⟨b1, 5, none⟩ = some (u5) ∧ W.cell? ⟨b1, 6, none⟩ = some (u6) ∧ W.cell? ⟨b2, 0, none⟩ = some (t0) ∧ W.cell? ⟨b2, 1, none⟩ = some (t1) ∧ W.cell? ⟨b2, 2, none⟩ = some (t2) ∧ W.cell? ⟨b2, 3, none⟩ = some (t3) ∧ W.cell? ⟨b2, 4, none⟩ = some (t4) ∧ W.cell? ⟨b2, 5, none⟩ = some (t5) ∧ W.cell? ⟨b2, 6, none⟩ = some (t6) ∧ KW w W) (hb : Below W.heap.size W W') : W'.cell? ⟨b, 0, none⟩ = some (y0) ∧ W'.cell? ⟨b, 1, none⟩ = some (y1) ∧ W'.cell? ⟨b, 2, none⟩ = some (y2) ∧ W'.cell? ⟨b, 3, none⟩ = some (y3) ∧ W'.cell? ⟨b, 4, none⟩ = some (y4) ∧ W'.cell? ⟨b, 5, none⟩ = some (y5) ∧ W'.cell? ⟨b, 6, none⟩ = some (y6) ∧ W'.cell? ⟨b1, 0, none⟩ = some (u0) ∧ W'.cell? ⟨b1, 1, none⟩ = some (u1) ∧ W'.cell? ⟨b1, 2, none⟩ = some (u2) ∧ W'.cell? ⟨b1, 3, none⟩ = some (u3) ∧ W'.cell? ⟨b1, 4, none⟩ = some (u4) ∧ W'.cell? ⟨b1, 5, none⟩ = some (u5) ∧ W'.cell? ⟨b1, 6, none⟩ = some (u6) ∧ W'.cell? ⟨b2, 0, none⟩ = some (t0) ∧ W'.cell? ⟨b2, 1, none⟩ = some (t1) ∧ W'.cell? ⟨b2, 2, none⟩ = some (t2) ∧ W'.cell? ⟨b2, 3, none⟩ = some (t3) ∧ W'.cell? ⟨b2, 4, none⟩ = some (t4) ∧ W'.cell? ⟨b2, 5, none⟩ = some (t5) ∧ W'.cell? ⟨b2, 6, none⟩ = some (t6) ∧ KW w W' := by
  have k : ∀ {p : Addr} {x : Value}, W.cell? p = some x → W'.cell? p = some x := fun {p x} hx => (hb.cell (p := p) (World.block_lt_of_cell? W _ hx)).trans hx
  obtain ⟨h0, h1, h2, h3, h4, h5, h6, h7, h8, h9, h10, h11, h12, h13, h14, h15, h16, h17, h18, h19, h20, hw⟩ := h
  exact ⟨k h0, k h1, k h2, k h3, k h4, k h5, k h6, k h7, k h8, k h9, k h10, k h11, k h12, k h13, k h14, k h15, k h16, k h17, k h18, k h19, k h20, Below.trans hw (hb.mono (Below.size hw))⟩
theorem belowM3 {w W : World} {b b1 b2 : Nat} {y0 y1 y2 y3 y4 y5 y6 u0 u1 u2 u3 u4 u5 u6 t0 t1 t2 t3 t4 t5 t6 : Value} (h : W.cell? ⟨b, 0, none⟩ = some (y0) ∧ W.cell? ⟨b, 1, none⟩ = some (y1) ∧ W.cell? ⟨b, 2, none⟩ = some (y2) ∧ W.cell? ⟨b, 3, none⟩ = some (y3) ∧ W.cell? ⟨b, 4, none⟩ = some (y4) ∧ W.cell? ⟨b, 5, none⟩ = some (y5) ∧ W.cell? ⟨b, 6, none⟩ = some (y6) ∧ W.cell? ⟨b1, 0, none⟩ = some (u0) ∧ W.cell? ⟨b1, 1, none⟩ = some (u1) ∧ W.cell? ⟨b1, 2, none⟩ = some (u2) ∧ W.cell? ⟨b1, 3, none⟩ = some (u3) ∧ W.cell? ⟨b1, 4, none⟩ = some (u4) ∧ W.cell? ⟨b1, 5, none⟩ = some (u5) ∧ W.cell? ⟨b1, 6, none⟩ = some (u6) ∧ W.cell? ⟨b2, 0, none⟩ = some (t0) ∧ W.cell? ⟨b2, 1, none⟩ = some (t1) ∧ W.cell? ⟨b2, 2, none⟩ = some (t2) ∧ W.cell? ⟨b2, 3, none⟩ = some (t3) ∧ W.cell? ⟨b2, 4, none⟩ = some (t4) ∧ W.cell? ⟨b2, 5, none⟩ = some (t5) ∧ W.cell? ⟨b2, 6, none⟩ = some (t6) ∧ KW w W) : Below w.heap.size w W := by
  obtain ⟨h0, h1, h2, h3, h4, h5, h6, h7, h8, h9, h10, h11, h12, h13, h14, h15, h16, h17, h18, h19, h20, hw⟩ := h
  exact hw
theorem newV_agg (a b c d : Int) (s : ByteArray) : ∃ (n0 n1 n2 n3 n4 n5 : Int) (sn : ByteArray), newV a b c d s = .agg #[.int .i64 n0, .int .i64 n1, .int .i64 n2, .int .i64 n3, .int .i64 n4, .int .i64 n5, .string sn] := by
  unfold newV
  split
  · exact ⟨_, _, _, _, _, _, _, rfl⟩
  · exact ⟨_, _, _, _, _, _, _, rfl⟩
set_option maxHeartbeats 8000000 in
set_option maxRecDepth 20000 in
theorem messageValidates_walk (x00 x01 x02 x03 x04 x05 : Int) (s0 : ByteArray) (a1 : Int) (a2 : Int) (a3 : Int) (a4 : Int) (a5 : ByteArray) (w : World) (_w00 : -9223372036854775808 ≤ x00 ∧ x00 ≤ 9223372036854775807) (_w01 : -9223372036854775808 ≤ x01 ∧ x01 ≤ 9223372036854775807) (_w02 : -9223372036854775808 ≤ x02 ∧ x02 ≤ 9223372036854775807) (_w03 : -9223372036854775808 ≤ x03 ∧ x03 ≤ 9223372036854775807) (_w04 : -9223372036854775808 ≤ x04 ∧ x04 ≤ 9223372036854775807) (_w05 : -9223372036854775808 ≤ x05 ∧ x05 ≤ 9223372036854775807) (_w1 : -9223372036854775808 ≤ a1 ∧ a1 ≤ 9223372036854775807) (_w2 : -9223372036854775808 ≤ a2 ∧ a2 ≤ 9223372036854775807) (_w3 : -9223372036854775808 ≤ a3 ∧ a3 ≤ 9223372036854775807) (_w4 : -9223372036854775808 ≤ a4 ∧ a4 ≤ 9223372036854775807) (_w5 : a5.size ≤ maxLen) :
    Calls Try.prog 18 #[.agg #[.int .i64 x00, .int .i64 x01, .int .i64 x02, .int .i64 x03, .int .i64 x04, .int .i64 x05, .string s0], .int .i64 a1, .int .i64 a2, .int .i64 a3, .int .i64 a4, .string a5] w fun e w' => e = .returned (.bool true) ∧ Below w.heap.size w w' := by
  clear _w00 _w01 _w02 _w03 _w04 _w05 _w1 _w2 _w3 _w4 _w5
  have W0 : Below w.heap.size w (w.alloc (.cells #[.int .i64 x00, .int .i64 x01, .int .i64 x02, .int .i64 x03, .int .i64 x04, .int .i64 x05, .string s0] 75)) := (Below.refl _ _).alloc (Nat.le_refl _) _
  have X0 := Box7.new w x00 x01 x02 x03 x04 x05 s0 75
  by_cases h1 : (100 : Int) < (s0.size : Int)
  · go_enter Try.func18, Try.ntmps18
    go_wp2_with fail
    go_ret
    exact ⟨rfl, W0⟩
  · by_cases h2 : (100 : Int) < (a5.size : Int)
    · go_enter Try.func18, Try.ntmps18
      go_wp2_with fail
      go_ret
      exact ⟨rfl, W0⟩
    · obtain ⟨n0, n1, n2, n3, n4, n5, sn, hn⟩ := newV_agg a1 a2 a3 a4 a5
      generalize hz : mvE a1 a2 a3 0 0 a4 a5.size = z
      have HN := hide hn
      have HZ := hide hz
      clear hn hz
      go_enter Try.func18, Try.ntmps18
      go_wp2_with fail
      generalize w.alloc (.cells #[.int .i64 x00, .int .i64 x01, .int .i64 x02, .int .i64 x03, .int .i64 x04, .int .i64 x05, .string s0] 75) = wx at *
      refine (mnew_any _ _ _ _ _ _).mono ?_
      rintro e w1 ⟨he, hb1⟩
      rw [HN.out, HZ.out] at he
      subst he
      have W1 := W0.trans (hb1.mono W0.size)
      have X1 := X0.below hb1 X0.1
      have Y1 := Box7.new w1 n0 n1 n2 n3 n4 n5 sn 75
      have W1 := W1.alloc W1.size (.cells #[.int .i64 n0, .int .i64 n1, .int .i64 n2, .int .i64 n3, .int .i64 n4, .int .i64 n5, .string sn] 75)
      have X1 := X1.alloc (.cells #[.int .i64 n0, .int .i64 n1, .int .i64 n2, .int .i64 n3, .int .i64 n4, .int .i64 n5, .string sn] 75)
      clear hb1 W0 X0
      go_wp2_with fail
      generalize w1.heap.size = b1 at *
      generalize w1.alloc (.cells #[.int .i64 n0, .int .i64 n1, .int .i64 n2, .int .i64 n3, .int .i64 n4, .int .i64 n5, .string sn] 75) = w2 at *
      refine (rmnew_any _ _ _ _ _ _).mono ?_
      rintro e w3 ⟨he, hb1⟩
      rw [HN.out, HZ.out] at he
      subst he
      have W3 := W1.trans (hb1.mono W1.size)
      have X3 := X1.below hb1 X1.1
      have Y3 := Y1.below hb1 Y1.1
      have Z3 := Box7.new w3 n0 n1 n2 n3 n4 n5 sn 75
      have W3 := W3.alloc W3.size (.cells #[.int .i64 n0, .int .i64 n1, .int .i64 n2, .int .i64 n3, .int .i64 n4, .int .i64 n5, .string sn] 75)
      have X3 := X3.alloc (.cells #[.int .i64 n0, .int .i64 n1, .int .i64 n2, .int .i64 n3, .int .i64 n4, .int .i64 n5, .string sn] 75)
      have Y3 := Y3.alloc (.cells #[.int .i64 n0, .int .i64 n1, .int .i64 n2, .int .i64 n3, .int .i64 n4, .int .i64 n5, .string sn] 75)
      clear hb1 W1 X1 Y1
      go_wp2_with fail
      generalize w3.heap.size = b2 at *
      generalize w3.alloc (.cells #[.int .i64 n0, .int .i64 n1, .int .i64 n2, .int .i64 n3, .int .i64 n4, .int .i64 n5, .string sn] 75) = w4 at *
      have K0 : KW w w4.drew := W3.drew
      obtain ⟨_, q0, q1, q2, q3, q4, q5, q6⟩ := X3
      obtain ⟨_, r0, r1, r2, r3, r4, r5, r6⟩ := Y3
      obtain ⟨_, t0, t1, t2, t3, t4, t5, t6⟩ := Z3
      clear W3
      go_region_held3 (fun w' => w'.cell? ⟨w.heap.size, 0, none⟩ = some (.int .i64 x00) ∧ w'.cell? ⟨w.heap.size, 1, none⟩ = some (.int .i64 x01) ∧ w'.cell? ⟨w.heap.size, 2, none⟩ = some (.int .i64 x02) ∧ w'.cell? ⟨w.heap.size, 3, none⟩ = some (.int .i64 x03) ∧ w'.cell? ⟨w.heap.size, 4, none⟩ = some (.int .i64 x04) ∧ w'.cell? ⟨w.heap.size, 5, none⟩ = some (.int .i64 x05) ∧ w'.cell? ⟨w.heap.size, 6, none⟩ = some (.string s0) ∧ w'.cell? ⟨b1, 0, none⟩ = some (.int .i64 n0) ∧ w'.cell? ⟨b1, 1, none⟩ = some (.int .i64 n1) ∧ w'.cell? ⟨b1, 2, none⟩ = some (.int .i64 n2) ∧ w'.cell? ⟨b1, 3, none⟩ = some (.int .i64 n3) ∧ w'.cell? ⟨b1, 4, none⟩ = some (.int .i64 n4) ∧ w'.cell? ⟨b1, 5, none⟩ = some (.int .i64 n5) ∧ w'.cell? ⟨b1, 6, none⟩ = some (.string sn) ∧ w'.cell? ⟨b2, 0, none⟩ = some (.int .i64 n0) ∧ w'.cell? ⟨b2, 1, none⟩ = some (.int .i64 n1) ∧ w'.cell? ⟨b2, 2, none⟩ = some (.int .i64 n2) ∧ w'.cell? ⟨b2, 3, none⟩ = some (.int .i64 n3) ∧ w'.cell? ⟨b2, 4, none⟩ = some (.int .i64 n4) ∧ w'.cell? ⟨b2, 5, none⟩ = some (.int .i64 n5) ∧ w'.cell? ⟨b2, 6, none⟩ = some (.string sn) ∧ KW w w')
        (first | exact ⟨q0, q1, q2, q3, q4, q5, q6, r0, r1, r2, r3, r4, r5, r6, t0, t1, t2, t3, t4, t5, t6, K0⟩ | exact keepM3 (by assumption) (by assumption) | assumption)
        (first
          | (go_at_call 74; refine (mval_any _ _ _ _ _ _ _ _).mono ?_; rintro e w' ⟨rfl, hb⟩)
          | (go_at_call 75; refine (rmval_any _ _ _ _ _ _ _ _).mono ?_; rintro e w' ⟨rfl, hb⟩)
          | (go_at_call 71; refine (mawake_any _).mono ?_; rintro e w' ⟨rfl, hb⟩))
      all_goals go_wp2_with fail
      all_goals go_ret
      all_goals exact ⟨rfl, belowM3 (by assumption)⟩
end Go.Proofs.Ytaoiekcoiooghaa
