/- The contract of the messages' Encode of the reference, and that of law03's awake. No condition. -/
import Derived.Test.YtaoiekcoiooghaaMse
namespace Go.Proofs.Ytaoiekcoiooghaa
open Go.RowKit
/-- A block of six integers. -/
def Box6 (W : World) (b : Nat) (x0 x1 x2 x3 x4 x5 : Int) : Prop := b < W.heap.size ∧ W.cell? ⟨b, 0, none⟩ = some (.int .i64 x0) ∧ W.cell? ⟨b, 1, none⟩ = some (.int .i64 x1) ∧ W.cell? ⟨b, 2, none⟩ = some (.int .i64 x2) ∧ W.cell? ⟨b, 3, none⟩ = some (.int .i64 x3) ∧
    W.cell? ⟨b, 4, none⟩ = some (.int .i64 x4) ∧ W.cell? ⟨b, 5, none⟩ = some (.int .i64 x5)
theorem Box6.new (w : World) (x0 x1 x2 x3 x4 x5 : Int) (t : TypeId) : Box6 (w.alloc (.cells #[.int .i64 x0, .int .i64 x1, .int .i64 x2, .int .i64 x3, .int .i64 x4, .int .i64 x5] t)) w.heap.size x0 x1 x2 x3 x4 x5 := by
  refine ⟨by simp, ?_, ?_, ?_, ?_, ?_, ?_⟩ <;> simp [World.cell?_alloc_new]
section
variable {W W' : World} {B b : Nat} {x0 x1 x2 x3 x4 x5 : Int}
theorem Box6.keep (h : Box6 W b x0 x1 x2 x3 x4 x5) (hs : W.heap.size ≤ W'.heap.size) (hk : ∀ j, W'.cell? ⟨b, j, none⟩ = W.cell? ⟨b, j, none⟩) : Box6 W' b x0 x1 x2 x3 x4 x5 :=
  ⟨Nat.lt_of_lt_of_le h.1 hs, (hk 0).trans h.2.1, (hk 1).trans h.2.2.1, (hk 2).trans h.2.2.2.1, (hk 3).trans h.2.2.2.2.1, (hk 4).trans h.2.2.2.2.2.1, (hk 5).trans h.2.2.2.2.2.2⟩
theorem Box6.below (h : Box6 W b x0 x1 x2 x3 x4 x5) (hb : Below B W W') (hB : b < B) : Box6 W' b x0 x1 x2 x3 x4 x5 := h.keep hb.size fun j => hb.cell (p := ⟨b, j, none⟩) hB
theorem Box6.alloc (h : Box6 W b x0 x1 x2 x3 x4 x5) (o : Obj) : Box6 (W.alloc o) b x0 x1 x2 x3 x4 x5 := h.below ((Below.refl _ _).alloc (Nat.le_refl _) o) h.1
end
set_option maxHeartbeats 4000000 in
set_option maxRecDepth 20000 in
theorem rmenc_ok (x0 x1 x2 x3 x4 x5 : Int) (s : ByteArray) (w : World) (hz : mvE x0 x1 x2 x3 x4 x5 s.size = 0) : Calls Try.prog 89 #[.agg #[.int .i64 x0, .int .i64 x1, .int .i64 x2, .int .i64 x3, .int .i64 x4, .int .i64 x5, .string s]] w (RetB w (meL x0 x1 x2 x3 x4 x5 s) 0) := by
  obtain ⟨T1, T2, T3, T4, T5, T6, e1, z1, e2, z2, e3, z3, e4, z4, e5, z5, e6, z6, e7, z7, n1, n2, n3, n4, n5, n6⟩ := enc_parts hz
  have E1 := hide e1
  have Z1 := hide z1
  have E2 := hide e2
  have Z2 := hide z2
  have E3 := hide e3
  have Z3 := hide z3
  have E4 := hide e4
  have Z4 := hide z4
  have E5 := hide e5
  have Z5 := hide z5
  have E6 := hide e6
  have Z6 := hide z6
  have E7 := hide e7
  have Z7 := hide z7
  clear e1 z1 e2 z2 e3 z3 e4 z4 e5 z5 e6 z6 e7 z7
  have HM := hide hz
  clear hz
  have WB : Below w.heap.size w (w.alloc (.cells #[.int .i64 x0, .int .i64 x1, .int .i64 x2, .int .i64 x3, .int .i64 x4, .int .i64 x5, .string s] 75)) := (Below.refl _ _).alloc (Nat.le_refl _) _
  have X0 := Box7.new w x0 x1 x2 x3 x4 x5 s 75
  go_enter Try.func89, Try.ntmps89
  go_wp2_with fail
  refine (rmval_any _ _ _ _ _ _ _ _).mono ?_
  rintro e w0 ⟨he, hb0⟩
  rw [HM.out] at he
  subst he
  have W0 := WB.trans (hb0.mono WB.size)
  have Y0 := X0.below hb0 X0.1
  have Y0' := Y0
  obtain ⟨_, q0, q1, q2, q3, q4, q5, q6⟩ := Y0'
  clear hb0 X0 WB
  go_wp2_with fail
  clear q0 q1 q2 q3 q4 q5 q6
  have V0 := Box6.new w0 x0 x1 x2 x3 x4 x5 3
  have W0 := W0.alloc W0.size (.cells #[.int .i64 x0, .int .i64 x1, .int .i64 x2, .int .i64 x3, .int .i64 x4, .int .i64 x5] 3)
  have Y0 := Y0.alloc (.cells #[.int .i64 x0, .int .i64 x1, .int .i64 x2, .int .i64 x3, .int .i64 x4, .int .i64 x5] 3)
  generalize hwy : w0.alloc (.cells #[.int .i64 x0, .int .i64 x1, .int .i64 x2, .int .i64 x3, .int .i64 x4, .int .i64 x5] 3) = wy at *
  clear hwy
  refine wp_loop_rounds 7 ?_
  rw [rounds_succ]
  have V0' := V0
  obtain ⟨_, q0, q1, q2, q3, q4, q5⟩ := V0'
  go_wp2_with fail
  refine (rputvar_any [] 0 _ _ _ x0 _ (Reads.none_ : Reads _ 0 none 0 (bvs [])) (by decide)).mono ?_
  rintro e w1 ⟨v1, he, hown1, hb1⟩
  rw [Z1.out] at he
  rw [E1.out] at hown1
  subst he
  obtain ⟨A1, c1, hv1, hc1, hm1, hr1⟩ := hown1.shape
  subst hv1
  have W1 := W0.trans (hb1.mono W0.size)
  have Y1 := Y0.below hb1 Y0.1
  have V1 := V0.below hb1 V0.1
  clear hown1 hb1 W0 Y0 V0 q0 q1 q2 q3 q4 q5
  go_wp2_with fail
  rw [rounds_succ]
  have V1' := V1
  obtain ⟨_, q0, q1, q2, q3, q4, q5⟩ := V1'
  go_wp2_with fail
  refine (rputvar_any T1 _ _ _ _ x1 _ (hr1) (by omega)).mono ?_
  rintro e w2 ⟨v2, he, hown2, hb2⟩
  rw [Z2.out] at he
  rw [E2.out] at hown2
  subst he
  obtain ⟨A2, c2, hv2, hc2, hm2, hr2⟩ := hown2.shape
  subst hv2
  have W2 := W1.trans (hb2.mono W1.size)
  have Y2 := Y1.below hb2 Y1.1
  have V2 := V1.below hb2 V1.1
  clear hown2 hb2 W1 Y1 V1 q0 q1 q2 q3 q4 q5
  go_wp2_with fail
  rw [rounds_succ]
  have V2' := V2
  obtain ⟨_, q0, q1, q2, q3, q4, q5⟩ := V2'
  go_wp2_with fail
  refine (rputvar_any T2 _ _ _ _ x2 _ (hr2) (by omega)).mono ?_
  rintro e w3 ⟨v3, he, hown3, hb3⟩
  rw [Z3.out] at he
  rw [E3.out] at hown3
  subst he
  obtain ⟨A3, c3, hv3, hc3, hm3, hr3⟩ := hown3.shape
  subst hv3
  have W3 := W2.trans (hb3.mono W2.size)
  have Y3 := Y2.below hb3 Y2.1
  have V3 := V2.below hb3 V2.1
  clear hown3 hb3 W2 Y2 V2 q0 q1 q2 q3 q4 q5
  go_wp2_with fail
  rw [rounds_succ]
  have V3' := V3
  obtain ⟨_, q0, q1, q2, q3, q4, q5⟩ := V3'
  go_wp2_with fail
  refine (rputvar_any T3 _ _ _ _ x3 _ (hr3) (by omega)).mono ?_
  rintro e w4 ⟨v4, he, hown4, hb4⟩
  rw [Z4.out] at he
  rw [E4.out] at hown4
  subst he
  obtain ⟨A4, c4, hv4, hc4, hm4, hr4⟩ := hown4.shape
  subst hv4
  have W4 := W3.trans (hb4.mono W3.size)
  have Y4 := Y3.below hb4 Y3.1
  have V4 := V3.below hb4 V3.1
  clear hown4 hb4 W3 Y3 V3 q0 q1 q2 q3 q4 q5
  go_wp2_with fail
  rw [rounds_succ]
  have V4' := V4
  obtain ⟨_, q0, q1, q2, q3, q4, q5⟩ := V4'
  go_wp2_with fail
  refine (rputvar_any T4 _ _ _ _ x4 _ (hr4) (by omega)).mono ?_
  rintro e w5 ⟨v5, he, hown5, hb5⟩
  rw [Z5.out] at he
  rw [E5.out] at hown5
  subst he
  obtain ⟨A5, c5, hv5, hc5, hm5, hr5⟩ := hown5.shape
  subst hv5
  have W5 := W4.trans (hb5.mono W4.size)
  have Y5 := Y4.below hb5 Y4.1
  have V5 := V4.below hb5 V4.1
  clear hown5 hb5 W4 Y4 V4 q0 q1 q2 q3 q4 q5
  go_wp2_with fail
  rw [rounds_succ]
  have V5' := V5
  obtain ⟨_, q0, q1, q2, q3, q4, q5⟩ := V5'
  go_wp2_with fail
  refine (rputvar_any T5 _ _ _ _ x5 _ (hr5) (by omega)).mono ?_
  rintro e w6 ⟨v6, he, hown6, hb6⟩
  rw [Z6.out] at he
  rw [E6.out] at hown6
  subst he
  obtain ⟨A6, c6, hv6, hc6, hm6, hr6⟩ := hown6.shape
  subst hv6
  have W6 := W5.trans (hb6.mono W5.size)
  have Y6 := Y5.below hb6 Y5.1
  have V6 := V5.below hb6 V5.1
  clear hown6 hb6 W5 Y5 V5 q0 q1 q2 q3 q4 q5
  go_wp2_with fail
  rw [rounds_succ]
  obtain ⟨_, q0, q1, q2, q3, q4, q5, q6⟩ := Y6
  go_wp2_with fail
  refine (rputtext_any T6 _ _ _ _ _ _ _ hr6 (by omega)).mono ?_
  rintro e w7 ⟨v7, he, hown7, hb7⟩
  rw [Z7.out] at he
  rw [E7.out] at hown7
  subst he
  have W7 := W6.trans (hb7.mono W6.size)
  have hown7' := hown7.less W6.size
  clear q0 q1 q2 q3 q4 q5 q6
  go_wp2_with fail
  go_ret2
  exact ⟨_, rfl, hown7', W7⟩
set_option maxHeartbeats 2000000 in
set_option maxRecDepth 20000 in
theorem rmenc_any (x0 x1 x2 x3 x4 x5 : Int) (s : ByteArray) (w : World) : Calls Try.prog 89 #[.agg #[.int .i64 x0, .int .i64 x1, .int .i64 x2, .int .i64 x3, .int .i64 x4, .int .i64 x5, .string s]] w (RetB w (meL x0 x1 x2 x3 x4 x5 s) (mvE x0 x1 x2 x3 x4 x5 s.size)) := by
  by_cases hz : mvE x0 x1 x2 x3 x4 x5 s.size = 0
  · rw [hz]
    exact rmenc_ok x0 x1 x2 x3 x4 x5 s w hz
  · rw [meL_err hz]
    generalize hx : mvE x0 x1 x2 x3 x4 x5 s.size = z at *
    have hz' : (z != 0) = true := by rw [bne_iff_ne]; exact hz
    have HM := hide hx
    clear hz hx
    have WB : Below w.heap.size w (w.alloc (.cells #[.int .i64 x0, .int .i64 x1, .int .i64 x2, .int .i64 x3, .int .i64 x4, .int .i64 x5, .string s] 75)) := (Below.refl _ _).alloc (Nat.le_refl _) _
    go_enter Try.func89, Try.ntmps89
    go_wp2_with fail
    refine (rmval_any _ _ _ _ _ _ _ _).mono ?_
    rintro e w0 ⟨he, hb0⟩
    rw [HM.out] at he
    subst he
    have W0 := WB.trans (hb0.mono WB.size)
    go_wp2_with fail
    go_ret2
    exact ⟨_, rfl, OwnB.nil _ _, W0⟩
/-- A literal of bytes. -/
theorem reads_lit (w : World) (l : List UInt8) : Reads (w.alloc (.cells (bvs l).toArray 5)) (w.heap.size + 1) (some ⟨w.heap.size, 0, none⟩) l.length (bvs l) := by
  refine ⟨bvs_length l, fun _ => ⟨w.heap.size, 0, rfl, by omega, fun j u hu => ?_⟩⟩
  have hj : j < (bvs l).length := by
    rcases Nat.lt_or_ge j (bvs l).length with h | h
    · exact h
    · rw [List.getElem?_eq_none h] at hu; cases hu
  rw [List.getElem?_eq_getElem hj] at hu
  simp only [Option.some.injEq] at hu
  subst hu
  simp [World.cell?_alloc_new, hj]
theorem mawake_fact : mvE 1 0 0 0 0 0 1 = 0 ∧ meL 1 0 0 0 0 0 ⟨#[97]⟩ = [1, 0, 0, 0, 0, 0, 1, 97] := by decide +kernel
set_option maxHeartbeats 2000000 in
set_option maxRecDepth 20000 in
theorem mawake_any (w : World) : Calls Try.prog 71 #[] w fun e w' => e = .returned (.bool true) ∧ Below w.heap.size w w' := by
  have HE := hide mawake_fact.1
  have HL := hide mawake_fact.2
  go_enter Try.func71, Try.ntmps71
  go_wp2_with fail
  refine (menc_any _ _ _ _ _ _ _ _).mono ?_
  rintro e w1 ⟨v1, he, hown1, hb1⟩
  rw [HL.out] at hown1
  obtain ⟨A1, c1, hv1, hc1, hm1, hq1⟩ := hown1.shape
  replace he := he.trans (show _ = Ending.returned (.tuple #[v1, .int .i64 0]) by rw [← HE.out]; rfl)
  subst he hv1
  go_wp2_with fail
  have hr2 : Reads (w1.alloc (.cells #[.int .u8 1, .int .u8 0, .int .u8 0, .int .u8 0, .int .u8 0, .int .u8 0, .int .u8 1, .int .u8 97] 5)) (w1.heap.size + 1) (some ⟨w1.heap.size, 0, none⟩) 8 (bvs [1, 0, 0, 0, 0, 0, 1, 97]) := reads_lit w1 [1, 0, 0, 0, 0, 0, 1, 97]
  have hr1 := hq1.alloc (Nat.le_refl _) (.cells #[.int .u8 1, .int .u8 0, .int .u8 0, .int .u8 0, .int .u8 0, .int .u8 0, .int .u8 1, .int .u8 97] 5)
  have W1 := hb1.alloc hb1.size (.cells #[.int .u8 1, .int .u8 0, .int .u8 0, .int .u8 0, .int .u8 0, .int .u8 0, .int .u8 1, .int .u8 97] 5)
  refine (same_any _ _ _ _ _ _ _ _ _ _ _ hr1 hr2).mono ?_
  rintro e w2 ⟨rfl, rfl⟩
  go_wp2_with (first
    | (go_at_call 67; refine (mspent_any _ _ _ _ _ _ _ _ _).mono ?_; rintro e w' ⟨rfl, hb⟩))
  go_ret
  exact ⟨rfl, W1.trans (hb.mono W1.size)⟩
end Go.Proofs.Ytaoiekcoiooghaa
