/- The contract of the builders' Odd: some message. Conditions: the reader of numbers. -/
import Derived.Test.YtaoiekcoiooghaaBs3
namespace Go.Proofs.Ytaoiekcoiooghaa
open Go.RowKit
def mxI (x y : Int) : Int := if x < y then y else x
/-- What Odd returns: some message. -/
def RetO (b : Nat) (w : World) (e : Ending) (w' : World) : Prop := ∃ (x0 x1 x2 x3 x4 x5 : Int) (s : ByteArray), e = .returned (.agg #[.int .i64 x0, .int .i64 x1, .int .i64 x2, .int .i64 x3, .int .i64 x4, .int .i64 x5, .string s]) ∧ Src w' b ∧ Oth w.heap.size b w w'
set_option maxHeartbeats 16000000 in
set_option maxRecDepth 20000 in
theorem bodd_any (b : Nat) (iD lo hi : Int) (w : World) (hs : Src w b) : Calls Try.prog 79 #[.pointer (some ⟨b, 0, none⟩), .int .i64 iD, .int .i64 lo, .int .i64 hi] w (RetO b w) := by
  have hbw := hs.1
  have S0 := hs.alloc (.cells #[.int .i64 0, .int .i64 0, .int .i64 0, .int .i64 0, .int .i64 0, .int .i64 0, .string ⟨#[]⟩] 75)
  have O0 := (Oth.refl w.heap.size b w).alloc (Nat.le_refl _) (.cells #[.int .i64 0, .int .i64 0, .int .i64 0, .int .i64 0, .int .i64 0, .int .i64 0, .string ⟨#[]⟩] 75)
  have X0 := Box7.new w 0 0 0 0 0 0 ⟨#[]⟩ 75
  have F0 := Free.new w #[.int .i64 0, .int .i64 0, .int .i64 0, .int .i64 0, .int .i64 0, .int .i64 0, .string ⟨#[]⟩] 75
  clear hs
  go_enter Try.func79, Try.ntmps79
  go_wp2_with fail
  refine (bmsg_any b iD lo hi _ S0).mono ?_
  rintro e w1 ⟨x2, x3, x4, x5, s, rfl, h2a, h2b, h3a, h3b, h4a, h4b, h5a, h5b, hsz, S1, ho⟩
  generalize into (routeOf iD) lo hi = x1 at *
  have P : MSt w b w1.heap.size iD x1 x2 x3 x4 x5 s (w1.alloc (.cells #[.int .i64 iD, .int .i64 x1, .int .i64 x2, .int .i64 x3, .int .i64 x4, .int .i64 x5, .string s] 75)) :=
    ⟨S1.alloc _, (X0.oth ho X0.1 (by omega)).alloc _, (F0.oth ho X0.1 (by omega)).alloc (Nat.lt_of_lt_of_le X0.1 ho.size) _, Box7.new _ _ _ _ _ _ _ _ 75, Free.new _ _ 75, (O0.trans (ho.mono O0.size)).alloc (Nat.le_trans O0.size ho.size) _, hbw, Nat.lt_of_lt_of_le X0.1 ho.size⟩
  clear S0 O0 X0 F0 S1 ho
  go_wp2_with fail
  generalize w1.heap.size = M at *
  generalize w1.alloc (.cells #[.int .i64 iD, .int .i64 x1, .int .i64 x2, .int .i64 x3, .int .i64 x4, .int .i64 x5, .string s] 75) = v1 at *
  refine (bn_any b 12 _ P.1 (by decide) (by decide)).mono ?_
  rintro e w2 ⟨y, hy1, hy2, rfl, S2, ho⟩
  have P2 := P.oth S2 ho
  clear P S2 ho
  have hcase : y = 0 ∨ y = 1 ∨ y = 2 ∨ y = 3 ∨ y = 4 ∨ y = 5 ∨ y = 6 ∨ 7 ≤ y := by omega
  clear hy1 hy2
  rcases hcase with rfl | rfl | rfl | rfl | rfl | rfl | rfl | hy
  · obtain ⟨_, _, _, XM, FM, _, _, _⟩ := id P2
    obtain ⟨_, q0, q1, q2, q3, q4, q5, q6⟩ := XM
    go_wp2_with fail
    clear q0 q1 q2 q3 q4 q5 q6
    have hg := rowN_new w2 [0, 1073741824, 1073741825, -1] 3
    have P3 := P2.alloc (.cells (ivs [0, 1073741824, 1073741825, -1]).toArray 3)
    refine (bpick_any b _ 4 _ _ P3.1 hg (by have := P2.1.1; omega) rfl (by decide) (by decide)).mono ?_
    rintro e w3 ⟨v, hv, rfl, S3, ho⟩
    have P4 := P3.oth S3 ho
    clear S3 ho P3 P2 hg FM
    obtain ⟨_, _, _, XM, FM, _, _, _⟩ := id P4
    obtain ⟨_, q0, q1, q2, q3, q4, q5, q6⟩ := XM
    have g0 := FM 0
    have P5 := P4.set0 v
    clear FM P4
    go_upto_region 18 with fail
    generalize w3.setCell ⟨M, 0, none⟩ (.int .i64 v) = w4 at *
    clear q0 q1 q2 q3 q4 q5 q6 g0
    clear hv
    obtain ⟨HS, XR, FR, XM, FM, HO, _, _⟩ := P5
    obtain ⟨_, p0, p1, p2, p3, p4, p5, p6⟩ := XR
    obtain ⟨_, q0, q1, q2, q3, q4, q5, q6⟩ := XM
    have f0 := FR 0
    have f1 := FR 1
    have f2 := FR 2
    have f3 := FR 3
    have f4 := FR 4
    have f5 := FR 5
    have f6 := FR 6
    have HSS := hide HS
    clear FR FM HS
    go_wp2_with fail
    refine bodyPost_ret (v := .agg #[.int .i64 v, .int .i64 x1, .int .i64 x2, .int .i64 x3, .int .i64 x4, .int .i64 x5, .string s]) (by simp [results, Try.results79, go_sem, p0, p1, p2, p3, p4, p5, p6]) rfl ⟨v, x1, x2, x3, x4, x5, s, rfl, ?_, ?_⟩
    · exact src7 HSS.out hbw _ _ _ _ _ _ _
    · exact oth7 HO (Nat.le_refl _) _ _ _ _ _ _ _
  · obtain ⟨_, _, _, XM, FM, _, _, _⟩ := id P2
    obtain ⟨_, q0, q1, q2, q3, q4, q5, q6⟩ := XM
    go_wp2_with fail
    clear q0 q1 q2 q3 q4 q5 q6
    have hg := rowN_new w2 [-1, 65535, 65536] 3
    have P3 := P2.alloc (.cells (ivs [-1, 65535, 65536]).toArray 3)
    refine (bpick_any b _ 3 _ _ P3.1 hg (by have := P2.1.1; omega) rfl (by decide) (by decide)).mono ?_
    rintro e w3 ⟨v, hv, rfl, S3, ho⟩
    have P4 := P3.oth S3 ho
    clear S3 ho P3 P2 hg FM
    obtain ⟨_, _, _, XM, FM, _, _, _⟩ := id P4
    obtain ⟨_, q0, q1, q2, q3, q4, q5, q6⟩ := XM
    have g1 := FM 1
    have P5 := P4.set1 v
    clear FM P4
    go_upto_region 18 with fail
    generalize w3.setCell ⟨M, 1, none⟩ (.int .i64 v) = w4 at *
    clear q0 q1 q2 q3 q4 q5 q6 g1
    clear hv
    obtain ⟨HS, XR, FR, XM, FM, HO, _, _⟩ := P5
    obtain ⟨_, p0, p1, p2, p3, p4, p5, p6⟩ := XR
    obtain ⟨_, q0, q1, q2, q3, q4, q5, q6⟩ := XM
    have f0 := FR 0
    have f1 := FR 1
    have f2 := FR 2
    have f3 := FR 3
    have f4 := FR 4
    have f5 := FR 5
    have f6 := FR 6
    have HSS := hide HS
    clear FR FM HS
    go_wp2_with fail
    refine bodyPost_ret (v := .agg #[.int .i64 iD, .int .i64 v, .int .i64 x2, .int .i64 x3, .int .i64 x4, .int .i64 x5, .string s]) (by simp [results, Try.results79, go_sem, p0, p1, p2, p3, p4, p5, p6]) rfl ⟨iD, v, x2, x3, x4, x5, s, rfl, ?_, ?_⟩
    · exact src7 HSS.out hbw _ _ _ _ _ _ _
    · exact oth7 HO (Nat.le_refl _) _ _ _ _ _ _ _
  · obtain ⟨_, _, _, XM, FM, _, _, _⟩ := id P2
    obtain ⟨_, q0, q1, q2, q3, q4, q5, q6⟩ := XM
    go_wp2_with fail
    clear q0 q1 q2 q3 q4 q5 q6
    have hg := rowN_new w2 [x3, x3 - 1, 65536, 65537] 3
    have P3 := P2.alloc (.cells (ivs [x3, x3 - 1, 65536, 65537]).toArray 3)
    refine (bpick_any b _ 4 _ _ P3.1 hg (by have := P2.1.1; omega) rfl (by decide) (by decide)).mono ?_
    rintro e w3 ⟨v, hv, rfl, S3, ho⟩
    have P4 := P3.oth S3 ho
    clear S3 ho P3 P2 hg FM
    obtain ⟨_, _, _, XM, FM, _, _, _⟩ := id P4
    obtain ⟨_, q0, q1, q2, q3, q4, q5, q6⟩ := XM
    have g4 := FM 4
    have P5 := P4.set4 v
    clear FM P4
    go_upto_region 18 with fail
    generalize w3.setCell ⟨M, 4, none⟩ (.int .i64 v) = w4 at *
    clear q0 q1 q2 q3 q4 q5 q6 g4
    clear hv
    obtain ⟨HS, XR, FR, XM, FM, HO, _, _⟩ := P5
    obtain ⟨_, p0, p1, p2, p3, p4, p5, p6⟩ := XR
    obtain ⟨_, q0, q1, q2, q3, q4, q5, q6⟩ := XM
    have f0 := FR 0
    have f1 := FR 1
    have f2 := FR 2
    have f3 := FR 3
    have f4 := FR 4
    have f5 := FR 5
    have f6 := FR 6
    have HSS := hide HS
    clear FR FM HS
    go_wp2_with fail
    refine bodyPost_ret (v := .agg #[.int .i64 iD, .int .i64 x1, .int .i64 x2, .int .i64 x3, .int .i64 v, .int .i64 x5, .string s]) (by simp [results, Try.results79, go_sem, p0, p1, p2, p3, p4, p5, p6]) rfl ⟨iD, x1, x2, x3, v, x5, s, rfl, ?_, ?_⟩
    · exact src7 HSS.out hbw _ _ _ _ _ _ _
    · exact oth7 HO (Nat.le_refl _) _ _ _ _ _ _ _
  · obtain ⟨_, _, _, XM, FM, _, _, _⟩ := id P2
    obtain ⟨_, q0, q1, q2, q3, q4, q5, q6⟩ := XM
    go_wp2_with fail
    clear q0 q1 q2 q3 q4 q5 q6
    have hg := rowN_new w2 [8, 9, -1] 3
    have P3 := P2.alloc (.cells (ivs [8, 9, -1]).toArray 3)
    refine (bpick_any b _ 3 _ _ P3.1 hg (by have := P2.1.1; omega) rfl (by decide) (by decide)).mono ?_
    rintro e w3 ⟨v, hv, rfl, S3, ho⟩
    have P4 := P3.oth S3 ho
    clear S3 ho P3 P2 hg FM
    obtain ⟨_, _, _, XM, FM, _, _, _⟩ := id P4
    obtain ⟨_, q0, q1, q2, q3, q4, q5, q6⟩ := XM
    have g3 := FM 3
    have P5 := P4.set3 v
    clear FM P4
    go_upto_region 11 with fail
    generalize w3.setCell ⟨M, 3, none⟩ (.int .i64 v) = w4 at *
    clear q0 q1 q2 q3 q4 q5 q6 g3
    clear hv
    have hmx : ∀ x y : Int, (if x < y then y else x) = mxI x y := fun _ _ => rfl
    obtain ⟨_, _, _, XM, FM, _, _, _⟩ := id P5
    obtain ⟨_, q0, q1, q2, q3, q4, q5, q6⟩ := XM
    have g4 := FM 4
    have Q1 := P5.set4 (mxI x4 v)
    clear FM P5
    go_upto_region 18 with fail
    generalize w4.setCell ⟨M, 4, none⟩ (.int .i64 (mxI x4 v)) = w5 at *
    clear q0 q1 q2 q3 q4 q5 q6 g4 hmx
    obtain ⟨HS, XR, FR, XM, FM, HO, _, _⟩ := Q1
    obtain ⟨_, p0, p1, p2, p3, p4, p5, p6⟩ := XR
    obtain ⟨_, q0, q1, q2, q3, q4, q5, q6⟩ := XM
    have f0 := FR 0
    have f1 := FR 1
    have f2 := FR 2
    have f3 := FR 3
    have f4 := FR 4
    have f5 := FR 5
    have f6 := FR 6
    have HSS := hide HS
    clear FR FM HS
    go_wp2_with fail
    refine bodyPost_ret (v := .agg #[.int .i64 iD, .int .i64 x1, .int .i64 x2, .int .i64 v, .int .i64 (mxI x4 v), .int .i64 x5, .string s]) (by simp [results, Try.results79, go_sem, p0, p1, p2, p3, p4, p5, p6]) rfl ⟨iD, x1, x2, v, mxI x4 v, x5, s, rfl, ?_, ?_⟩
    · exact src7 HSS.out hbw _ _ _ _ _ _ _
    · exact oth7 HO (Nat.le_refl _) _ _ _ _ _ _ _
  · go_upto_region 13 with fail
    have P3 := P2.drew
    obtain ⟨_, _, _, XM, FM, _, _, _⟩ := id P3
    obtain ⟨_, q0, q1, q2, q3, q4, q5, q6⟩ := XM
    clear FM
    go_region_with (go_at_call 102; refine (bbody_any b _ P3.1).mono ?_; rintro e w' ⟨t, ht, rfl, hs5, ho5⟩; have P4 := P3.oth hs5 ho5; obtain ⟨_, _, _, XM2, FM2, _, _, _⟩ := id P4; obtain ⟨_, r0, r1, r2, r3, r4, r5, r6⟩ := XM2; have g6 := FM2 6; clear hs5 ho5 FM2)
    generalize ({ data := #[48, 49, 50, 51, 52, 53, 54, 55, 56, 57, 97, 98, 99, 100, 101, 102] } : ByteArray).extract 0 15 ++ t = s'
    have P5 := P4.set6 s'
    generalize w'.setCell ⟨M, 6, none⟩ (.string s') = w5 at *
    clear P4 r0 r1 r2 r3 r4 r5 r6 g6 P3 P2 q0 q1 q2 q3 q4 q5 q6
    obtain ⟨HS, XR, FR, XM, FM, HO, _, _⟩ := P5
    obtain ⟨_, p0, p1, p2, p3, p4, p5, p6⟩ := XR
    obtain ⟨_, q0, q1, q2, q3, q4, q5, q6⟩ := XM
    have f0 := FR 0
    have f1 := FR 1
    have f2 := FR 2
    have f3 := FR 3
    have f4 := FR 4
    have f5 := FR 5
    have f6 := FR 6
    have HSS := hide HS
    clear FR FM HS
    go_wp2_with fail
    refine bodyPost_ret (v := .agg #[.int .i64 iD, .int .i64 x1, .int .i64 x2, .int .i64 x3, .int .i64 x4, .int .i64 x5, .string s']) (by simp [results, Try.results79, go_sem, p0, p1, p2, p3, p4, p5, p6]) rfl ⟨iD, x1, x2, x3, x4, x5, s', rfl, ?_, ?_⟩
    · exact src7 HSS.out hbw _ _ _ _ _ _ _
    · exact oth7 HO (Nat.le_refl _) _ _ _ _ _ _ _
  · obtain ⟨_, _, _, XM, FM, _, _, _⟩ := id P2
    obtain ⟨_, q0, q1, q2, q3, q4, q5, q6⟩ := XM
    go_wp2_with fail
    clear q0 q1 q2 q3 q4 q5 q6
    have hg := rowN_new w2 [-1, 1073741824, 1073741825] 3
    have P3 := P2.alloc (.cells (ivs [-1, 1073741824, 1073741825]).toArray 3)
    refine (bpick_any b _ 3 _ _ P3.1 hg (by have := P2.1.1; omega) rfl (by decide) (by decide)).mono ?_
    rintro e w3 ⟨v, hv, rfl, S3, ho⟩
    have P4 := P3.oth S3 ho
    clear S3 ho P3 P2 hg FM
    obtain ⟨_, _, _, XM, FM, _, _, _⟩ := id P4
    obtain ⟨_, q0, q1, q2, q3, q4, q5, q6⟩ := XM
    have g5 := FM 5
    have P5 := P4.set5 v
    clear FM P4
    go_upto_region 18 with fail
    generalize w3.setCell ⟨M, 5, none⟩ (.int .i64 v) = w4 at *
    clear q0 q1 q2 q3 q4 q5 q6 g5
    clear hv
    obtain ⟨HS, XR, FR, XM, FM, HO, _, _⟩ := P5
    obtain ⟨_, p0, p1, p2, p3, p4, p5, p6⟩ := XR
    obtain ⟨_, q0, q1, q2, q3, q4, q5, q6⟩ := XM
    have f0 := FR 0
    have f1 := FR 1
    have f2 := FR 2
    have f3 := FR 3
    have f4 := FR 4
    have f5 := FR 5
    have f6 := FR 6
    have HSS := hide HS
    clear FR FM HS
    go_wp2_with fail
    refine bodyPost_ret (v := .agg #[.int .i64 iD, .int .i64 x1, .int .i64 x2, .int .i64 x3, .int .i64 x4, .int .i64 v, .string s]) (by simp [results, Try.results79, go_sem, p0, p1, p2, p3, p4, p5, p6]) rfl ⟨iD, x1, x2, x3, x4, v, s, rfl, ?_, ?_⟩
    · exact src7 HSS.out hbw _ _ _ _ _ _ _
    · exact oth7 HO (Nat.le_refl _) _ _ _ _ _ _ _
  · obtain ⟨_, _, _, XM, FM, _, _, _⟩ := id P2
    obtain ⟨_, q0, q1, q2, q3, q4, q5, q6⟩ := XM
    go_wp2_with fail
    clear q0 q1 q2 q3 q4 q5 q6
    have hg := rowN_new w2 [-1, 65536, 65537] 3
    have P3 := P2.alloc (.cells (ivs [-1, 65536, 65537]).toArray 3)
    refine (bpick_any b _ 3 _ _ P3.1 hg (by have := P2.1.1; omega) rfl (by decide) (by decide)).mono ?_
    rintro e w3 ⟨v, hv, rfl, S3, ho⟩
    have P4 := P3.oth S3 ho
    clear S3 ho P3 P2 hg FM
    obtain ⟨_, _, _, XM, FM, _, _, _⟩ := id P4
    obtain ⟨_, q0, q1, q2, q3, q4, q5, q6⟩ := XM
    have g2 := FM 2
    have P5 := P4.set2 v
    clear FM P4
    go_upto_region 18 with fail
    generalize w3.setCell ⟨M, 2, none⟩ (.int .i64 v) = w4 at *
    clear q0 q1 q2 q3 q4 q5 q6 g2
    clear hv
    obtain ⟨HS, XR, FR, XM, FM, HO, _, _⟩ := P5
    obtain ⟨_, p0, p1, p2, p3, p4, p5, p6⟩ := XR
    obtain ⟨_, q0, q1, q2, q3, q4, q5, q6⟩ := XM
    have f0 := FR 0
    have f1 := FR 1
    have f2 := FR 2
    have f3 := FR 3
    have f4 := FR 4
    have f5 := FR 5
    have f6 := FR 6
    have HSS := hide HS
    clear FR FM HS
    go_wp2_with fail
    refine bodyPost_ret (v := .agg #[.int .i64 iD, .int .i64 x1, .int .i64 v, .int .i64 x3, .int .i64 x4, .int .i64 x5, .string s]) (by simp [results, Try.results79, go_sem, p0, p1, p2, p3, p4, p5, p6]) rfl ⟨iD, x1, v, x3, x4, x5, s, rfl, ?_, ?_⟩
    · exact src7 HSS.out hbw _ _ _ _ _ _ _
    · exact oth7 HO (Nat.le_refl _) _ _ _ _ _ _ _
  · have b0 : (y == 0) = false := by rw [beq_eq_false_iff_ne]; omega
    have b1 : (y == 1) = false := by rw [beq_eq_false_iff_ne]; omega
    have b2 : (y == 2) = false := by rw [beq_eq_false_iff_ne]; omega
    have b3 : (y == 3) = false := by rw [beq_eq_false_iff_ne]; omega
    have b4 : (y == 4) = false := by rw [beq_eq_false_iff_ne]; omega
    have b5 : (y == 5) = false := by rw [beq_eq_false_iff_ne]; omega
    have b6 : (y == 6) = false := by rw [beq_eq_false_iff_ne]; omega
    clear hy
    obtain ⟨HS, XR, FR, XM, FM, HO, _, _⟩ := P2
    obtain ⟨_, p0, p1, p2, p3, p4, p5, p6⟩ := XR
    obtain ⟨_, q0, q1, q2, q3, q4, q5, q6⟩ := XM
    have f0 := FR 0
    have f1 := FR 1
    have f2 := FR 2
    have f3 := FR 3
    have f4 := FR 4
    have f5 := FR 5
    have f6 := FR 6
    have HSS := hide HS
    clear FR FM HS
    go_wp2_with fail
    refine bodyPost_ret (v := .agg #[.int .i64 iD, .int .i64 x1, .int .i64 x2, .int .i64 x3, .int .i64 x4, .int .i64 x5, .string s]) (by simp [results, Try.results79, go_sem, p0, p1, p2, p3, p4, p5, p6]) rfl ⟨iD, x1, x2, x3, x4, x5, s, rfl, ?_, ?_⟩
    · exact src7 HSS.out hbw _ _ _ _ _ _ _
    · exact oth7 HO (Nat.le_refl _) _ _ _ _ _ _ _
end Go.Proofs.Ytaoiekcoiooghaa
