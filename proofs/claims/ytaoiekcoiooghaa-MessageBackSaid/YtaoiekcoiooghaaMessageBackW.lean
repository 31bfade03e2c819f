/- The walk of 'MessageBack': it returns true. No condition. -/
import Derived.Test.YtaoiekcoiooghaaMsh
import Derived.Test.YtaoiekcoiooghaaMsj
import Derived.Test.YtaoiekcoiooghaaBs3
namespace Go.Proofs.Ytaoiekcoiooghaa
open Go.RowKit
set_option maxHeartbeats 8000000 in
set_option maxRecDepth 20000 in
theorem messageBack_walk (A0 : Option Addr) (n0 c0 : Nat) (l0 : List Int) (A1 : Option Addr) (n1 c1 : Nat) (l1 : List UInt8) (w : World) (w0 : Reads w w.heap.size A0 n0 (ivs l0)) (k0 : n0 ≤ c0) (m0 : c0 ≤ maxLen) (b0 : ∀ x ∈ l0, -9223372036854775808 ≤ x ∧ x ≤ 9223372036854775807) (w1 : Reads w w.heap.size A1 n1 (bvs l1)) (k1 : n1 ≤ c1) (m1 : c1 ≤ maxLen) :
    Calls Try.prog 26 #[.slice A0 n0 c0, .slice A1 n1 c1] w fun e w' => e = .returned (.bool true) ∧ Below w.heap.size w w' := by
  have BB := hide b0
  have HR1 := hide w1
  have HK1 := hide k1
  have HM1 := hide m1
  clear b0 w1 k1 m1
  go_enter Try.func26, Try.ntmps26
  go_wp2_with fail
  refine (bnew_any _ _ _ _ _ w0 k0 m0 BB.out).mono ?_
  rintro e v1 ⟨rfl, S, W⟩
  clear w0 k0 m0 BB
  go_wp2_with fail
  refine (brange_any w.heap.size 1 100000 _ S (by decide) (by decide) (by decide) (by decide)).mono ?_
  rintro e v2 ⟨iD, hi1, hi2, rfl, S2, ho⟩
  have hB2 := (ho.mono W.size).below (Nat.le_refl _) (Nat.le_refl _)
  have W2 := W.trans hB2
  clear ho hB2 W S
  have HS := hide S2
  clear S2
  go_wp2_with fail
  refine (bmsg_any w.heap.size iD 0 65535 _ HS.out).mono ?_
  rintro e v3 ⟨x2, x3, x4, x5, s, rfl, h2a, h2b, h3a, h3b, h4a, h4b, h5a, h5b, hsz, _, ho⟩
  have hx1 := into_all (routeOf_bounds iD)
  generalize into (routeOf iD) 0 65535 = x1 at *
  have hB3 := (ho.mono W2.size).below (Nat.le_refl _) (Nat.le_refl _)
  have W3 := W2.trans hB3
  have hv : mvE iD x1 x2 x3 x4 x5 s.size = 0 := mvE_yes (by omega)
  have DL := dec_meL hv
  have HV := hide hv
  have HD1 := hide DL.1
  have HD2 := hide DL.2
  have HLL := hide (meL_length hv)
  have HTK := hide (fun k hk => dec_take hv (k := k) hk)
  clear ho hB3 W2 HS hi1 hi2 h2a h2b h3a h3b h4a h4b h5a h5b hsz hx1 hv DL
  have X3 := Box7.new v3 iD x1 x2 x3 x4 x5 s 75
  have W3 := W3.alloc W3.size (.cells #[.int .i64 iD, .int .i64 x1, .int .i64 x2, .int .i64 x3, .int .i64 x4, .int .i64 x5, .string s] 75)
  obtain ⟨_, q0, q1, q2, q3, q4, q5, q6⟩ := id X3
  go_wp2_with fail
  clear q0 q1 q2 q3 q4 q5 q6
  generalize v3.heap.size = B6 at *
  generalize v3.alloc (.cells #[.int .i64 iD, .int .i64 x1, .int .i64 x2, .int .i64 x3, .int .i64 x4, .int .i64 x5, .string s] 75) = v4 at *
  refine (menc_any _ _ _ _ _ _ _ _).mono ?_
  rintro e v5 ⟨vc, he, hown, hb⟩
  rw [HV.out] at he
  subst he
  have W5 := W3.trans (hb.mono W3.size)
  have X5 := X3.below hb X3.1
  generalize meL iD x1 x2 x3 x4 x5 s = L at *
  obtain ⟨Ac, cc, hvc, hcc, hmc, hqc⟩ := hown.shape
  subst hvc
  clear hb W3 X3 hown
  go_wp2_with fail
  refine (mdec_any L _ _ _ _ _ hqc (Nat.le_refl _) hcc hmc).mono ?_
  rintro e v6 ⟨he, hb⟩
  rw [HD1.out, HD2.out] at he
  subst he
  have W6 := W5.trans (hb.mono W5.size)
  have X6 := X5.below hb X5.1
  have hq6 := hqc.below hb
  have hs6 := hb.size
  clear hb W5 X5 hqc
  have Y6 := Box7.new v6 iD x1 x2 x3 x4 x5 s 75
  have W6 := W6.alloc W6.size (.cells #[.int .i64 iD, .int .i64 x1, .int .i64 x2, .int .i64 x3, .int .i64 x4, .int .i64 x5, .string s] 75)
  have X6 := X6.alloc (.cells #[.int .i64 iD, .int .i64 x1, .int .i64 x2, .int .i64 x3, .int .i64 x4, .int .i64 x5, .string s] 75)
  have hq6 := hq6.alloc hs6 (.cells #[.int .i64 iD, .int .i64 x1, .int .i64 x2, .int .i64 x3, .int .i64 x4, .int .i64 x5, .string s] 75)
  have hs6 : v5.heap.size ≤ (v6.alloc (.cells #[.int .i64 iD, .int .i64 x1, .int .i64 x2, .int .i64 x3, .int .i64 x4, .int .i64 x5, .string s] 75)).heap.size := Nat.le_trans hs6 (by simp)
  obtain ⟨_, q0, q1, q2, q3, q4, q5, q6⟩ := X6
  obtain ⟨_, r0, r1, r2, r3, r4, r5, r6⟩ := Y6
  have HQ := hide hq6
  have HW := hide W6
  have HB := hide hs6
  clear hq6 W6 hs6
  go_upto_region 7 with fail
  clear q0 q1 q2 q3 q4 q5 q6 r0 r1 r2 r3 r4 r5 r6
  generalize v6.heap.size = B9 at *
  generalize v6.alloc (.cells #[.int .i64 iD, .int .i64 x1, .int .i64 x2, .int .i64 x3, .int .i64 x4, .int .i64 x5, .string s] 75) = v7 at *
  have hL60 : (L.length : Int) ≤ 60 := by have := HLL.out.2; omega
  have hL60' : L.length ≤ 60 := HLL.out.2
  go_wp2_with fail
  go_loopw [11] (fun i wr => ∃ k : Nat, k ≤ L.length ∧ i = .int .i64 k ∧ Hid (Below w.heap.size w wr) ∧ Hid (Reads wr v5.heap.size Ac L.length (bvs L)) ∧ Hid (v5.heap.size ≤ wr.heap.size)) (fun i _ => L.length - (intOf i).toNat)
  case atStart => exact ⟨0, Nat.zero_le _, rfl, HW, HQ, HB⟩
  case round =>
    clear HW HQ HB
    obtain ⟨k, hk, rfl, HW, HQ, HB⟩ := hrel
    by_cases hlt : k < L.length
    · have hki : (k : Int) < (L.length : Int) := by omega
      have hk0 : (0 : Int) ≤ (k : Int) := by omega
      have hqk := HQ.out.take_ (k := k) hk
      rw [show (bvs L).take k = bvs (L.take k) from by simp [bvs, List.map_take]] at hqk
      obtain ⟨d0, d1, d2, d3, d4, d5, sd, hd⟩ := decV_agg (L.take k)
      generalize hz : decE (L.take k) = z
      have hzb : (z == 0) = false := by rw [beq_eq_false_iff_ne, ← hz]; exact HTK.out k hlt
      have HVk := hide hd
      have HEk := hide hz
      have hkc : k ≤ cc := by omega
      clear hd hz
      go_wp2_with fail
      refine (mdec_any _ _ _ _ _ _ hqk HB.out hkc hmc).mono ?_
      rintro e v8 ⟨he, hb⟩
      rw [HVk.out, HEk.out] at he
      subst he
      have W8 := HW.out.trans (hb.mono HW.out.size)
      have hq8 := HQ.out.below (hb.mono HB.out)
      have hs8 := Nat.le_trans HB.out hb.size
      have HW8 := hide (W8.alloc W8.size (.cells #[.int .i64 d0, .int .i64 d1, .int .i64 d2, .int .i64 d3, .int .i64 d4, .int .i64 d5, .string sd] 75))
      have HQ8 := hide (hq8.alloc hs8 (.cells #[.int .i64 d0, .int .i64 d1, .int .i64 d2, .int .i64 d3, .int .i64 d4, .int .i64 d5, .string sd] 75))
      have HB8 := hide (Nat.le_trans hs8 (show _ ≤ (v8.alloc (.cells #[.int .i64 d0, .int .i64 d1, .int .i64 d2, .int .i64 d3, .int .i64 d4, .int .i64 d5, .string sd] 75)).heap.size by simp))
      clear W8 hq8 hs8 hb hqk HW HQ HB
      go_wp2_with fail
      go_roundw
      case rel => exact ⟨k + 1, by omega, by go_num, HW8, HQ8, HB8⟩
      case measure => simp [intOf]; omega
    · obtain rfl : k = L.length := by omega
      have hr := HR1.out.below HW.out
      by_cases h100 : (100 : Int) < (n1 : Int)
      · go_wp2_with fail
        go_ret
        exact ⟨rfl, HW.out⟩
      · by_cases hz : decE l1 = 0
        · obtain ⟨y0, y1, y2, y3, y4, y5, t, e1, e2, e3, _⟩ := meL_dec hz
          have Z0 := hide hz
          have Z1 := hide e1
          have Z2 := hide e2
          have Z3 := hide e3
          clear hz e1 e2 e3
          go_wp2_with fail
          refine (mdec_any l1 _ _ _ _ _ hr HW.out.size HK1.out HM1.out).mono ?_
          rintro e v8 ⟨he, hb⟩
          rw [Z0.out, Z1.out] at he
          subst he
          have W8 := HW.out.trans (hb.mono HW.out.size)
          have X8 := Box7.new v8 y0 y1 y2 y3 y4 y5 t 75
          have W8 := W8.alloc W8.size (.cells #[.int .i64 y0, .int .i64 y1, .int .i64 y2, .int .i64 y3, .int .i64 y4, .int .i64 y5, .string t] 75)
          obtain ⟨_, q0, q1, q2, q3, q4, q5, q6⟩ := X8
          clear hb hr
          go_wp2_with fail
          generalize v8.alloc (.cells #[.int .i64 y0, .int .i64 y1, .int .i64 y2, .int .i64 y3, .int .i64 y4, .int .i64 y5, .string t] 75) = v9 at *
          refine (menc_any _ _ _ _ _ _ _ _).mono ?_
          rintro e v10 ⟨vd, he, hown, hb⟩
          rw [Z2.out] at he
          subst he
          rw [Z3.out] at hown
          obtain ⟨Ad, cd, hvd, hcd, hmd, hqd⟩ := hown.shape
          subst hvd
          have W10 := W8.trans (hb.mono W8.size)
          have hr := HR1.out.below W10
          clear hb hown W8 q0 q1 q2 q3 q4 q5 q6
          go_wp2_with (first
            | (go_at_call 47; refine (same_any _ _ _ _ _ _ _ _ _ _ _ hqd hr).mono ?_; rintro e w' ⟨he, rfl⟩; rw [decide_eq_true rfl] at he; subst he)
            | (go_at_call 71; refine (mawake_any _).mono ?_; rintro e w' ⟨rfl, hb⟩))
          go_ret
          exact ⟨rfl, W10.trans (hb.mono W10.size)⟩
        · obtain ⟨d0, d1, d2, d3, d4, d5, sd, hd⟩ := decV_agg l1
          generalize hx : decE l1 = z at *
          have hzb : (z != 0) = true := by rw [bne_iff_ne]; exact hz
          have Z0 := hide hx
          have Z1 := hide hd
          clear hz hx hd
          go_wp2_with fail
          refine (mdec_any l1 _ _ _ _ _ hr HW.out.size HK1.out HM1.out).mono ?_
          rintro e v8 ⟨he, hb⟩
          rw [Z0.out, Z1.out] at he
          subst he
          have W8 := HW.out.trans (hb.mono HW.out.size)
          have W8 := W8.alloc W8.size (.cells #[.int .i64 d0, .int .i64 d1, .int .i64 d2, .int .i64 d3, .int .i64 d4, .int .i64 d5, .string sd] 75)
          clear hb hr
          go_wp2_with (first
            | (go_at_call 71; refine (mawake_any _).mono ?_; rintro e w' ⟨rfl, hb⟩))
          go_ret
          exact ⟨rfl, W8.trans (hb.mono W8.size)⟩
end Go.Proofs.Ytaoiekcoiooghaa
