/- The walk of 'HandleBack': it returns true. No condition. -/
import Derived.Test.YtaoiekcoiooghaaHn8
namespace Go.Proofs.Ytaoiekcoiooghaa
open Go.RowKit
set_option maxHeartbeats 4000000 in
set_option maxRecDepth 20000 in
theorem handleBack_walk (x00 x01 x02 x03 : Int) (a1 : UInt8) (w : World) (_w00 : -9223372036854775808 ≤ x00 ∧ x00 ≤ 9223372036854775807) (_w01 : -9223372036854775808 ≤ x01 ∧ x01 ≤ 9223372036854775807) (_w02 : -9223372036854775808 ≤ x02 ∧ x02 ≤ 9223372036854775807) (_w03 : -9223372036854775808 ≤ x03 ∧ x03 ≤ 9223372036854775807) :
    Calls Try.prog 20 #[.agg #[.int .i64 x00, .int .i64 x01, .int .i64 x02, .int .i64 x03], .int .u8 (a1.toNat : Int)] w fun e w' => e = .returned (.bool true) ∧ Below w.heap.size w w' := by
  clear _w00 _w01 _w02 _w03
  go_enter Try.func20, Try.ntmps20
  go_wp2_with fail
  have WB : Below w.heap.size w (w.alloc (.cells #[.int .i64 x00, .int .i64 x01, .int .i64 x02, .int .i64 x03] 58)) := (Below.refl _ _).alloc (Nat.le_refl _) _
  have X0 := Box4.new w (.int .i64 x00) (.int .i64 x01) (.int .i64 x02) (.int .i64 x03) 58
  have F0 := Free.new w #[.int .i64 x00, .int .i64 x01, .int .i64 x02, .int .i64 x03] 58
  refine (hsome_any _ _ _ _ _).mono ?_
  rintro e wa ⟨p0, p1, p2, p3, hk, rfl, hba⟩
  have W1 := WB.trans (hba.mono WB.size)
  have X1 := X0.below hba X0.1
  have F1 := F0.below hba X0.1
  have f0 := F1 0
  have f1 := F1 1
  have f2 := F1 2
  have f3 := F1 3
  have XP := X1.put (.int .i64 p0) (.int .i64 p1) (.int .i64 p2) (.int .i64 p3)
  obtain ⟨xs, q0, q1, q2, q3⟩ := X1
  clear X0 F0 WB hba
  go_wp2_with fail
  have HK := hide hk
  have e1 : encE p0 p1 p2 p3 = 0 := by rw [encE, if_pos hk]
  have e2 : encL p0 p1 p2 p3 = tok p0.toNat p1.toNat p2.toNat p3.toNat := by rw [encL, if_pos hk]
  have hlt := tok_length p0.toNat p1.toNat p2.toNat p3.toNat
  clear hk
  refine (henc_any _ _ _ _ _).mono ?_
  rintro e wb ⟨vb, he, hownb, hbb⟩
  have W2 := (((((W1.setCell (p := ⟨w.heap.size, 0, none⟩) (Nat.le_refl _) (.int .i64 p0)).setCell (p := ⟨w.heap.size, 1, none⟩) (Nat.le_refl _) (.int .i64 p1)).setCell (p := ⟨w.heap.size, 2, none⟩) (Nat.le_refl _) (.int .i64 p2)).setCell (p := ⟨w.heap.size, 3, none⟩) (Nat.le_refl _) (.int .i64 p3)))
  have W3 := W2.trans (hbb.mono W2.size)
  have XQ := XP.below hbb XP.1
  obtain ⟨Ab, cb, hvb, hcb, hmb, hqb⟩ := hownb.shape
  rw [e2, hlt] at hqb hcb hvb
  subst he hvb
  rw [e1]
  have PT := par_tok HK.out
  have XQ' := XQ
  obtain ⟨_, r0, r1, r2, r3⟩ := XQ'
  clear XP W1 W2 hbb hownb q0 q1 q2 q3 f0 f1 f2 f3
  go_wp2_with fail
  refine (parse_any _ _ _ _ _ _ hqb (Nat.le_refl _) hcb hmb).mono ?_
  rintro e wc ⟨he, hbc⟩
  rw [PT.1, PT.2] at he
  subst he
  have W4 := W3.trans (hbc.mono W3.size)
  have XR := XQ.below hbc XQ.1
  have hqc := hqb.below hbc
  have B4 : Below wc.heap.size wc (wc.alloc (.cells #[.int .i64 p0, .int .i64 p1, .int .i64 p2, .int .i64 p3] 58)) := (Below.refl _ _).alloc (Nat.le_refl _) _
  have XS := XR.below B4 XR.1
  have YS := Box4.new wc (.int .i64 p0) (.int .i64 p1) (.int .i64 p2) (.int .i64 p3) 58
  have W5 := W4.trans (B4.mono W4.size)
  have hqd := hqc.below (B4.mono hbc.size)
  have hBd := Nat.le_trans hbc.size B4.size
  obtain ⟨_, s0, s1, s2, s3⟩ := XS
  obtain ⟨_, u0, u1, u2, u3⟩ := YS
  clear r0 r1 r2 r3 XQ W3 hbc XR hqb hqc B4 W4 PT
  go_wp2_with fail
  generalize wc.alloc (.cells #[.int .i64 p0, .int .i64 p1, .int .i64 p2, .int .i64 p3] 58) = wx at *
  have HT := hide hlt
  clear hlt s0 s1 s2 s3 u0 u1 u2 u3 e1 e2
  go_loopw [9] (fun i wr => ∃ k : Nat, k ≤ 16 ∧ i = .int .i64 k ∧ Below w.heap.size w wr ∧ Reads wr wb.heap.size Ab 16 (bvs (tok p0.toNat p1.toNat p2.toNat p3.toNat)) ∧ wb.heap.size ≤ wr.heap.size) (fun i _ => 16 - (intOf i).toNat)
  case atStart => exact ⟨0, Nat.zero_le _, rfl, W5, hqd, hBd⟩
  case round =>
    obtain ⟨k, hk, rfl, hw, hq, hB⟩ := hrel
    by_cases hlt : k < 16
    · have hki : (k : Int) < 16 := by omega
      have hk0 : (0 : Int) ≤ (k : Int) := by omega
      have hqk := hq.take_ (k := k) hk
      rw [show (bvs (tok p0.toNat p1.toNat p2.toNat p3.toNat)).take k = bvs ((tok p0.toNat p1.toNat p2.toNat p3.toNat).take k) from by simp [bvs, List.map_take]] at hqk
      have hn : ¬ ParOk ((tok p0.toNat p1.toNat p2.toNat p3.toNat).take k) := fun x => by
        have := x.1
        rw [List.length_take, HT.out] at this
        omega
      have PV : parV ((tok p0.toNat p1.toNat p2.toNat p3.toNat).take k) = .agg #[.int .i64 0, .int .i64 0, .int .i64 0, .int .i64 0] := by rw [parV, if_neg hn]
      have PE : parE ((tok p0.toNat p1.toNat p2.toNat p3.toNat).take k) = 8 := by rw [parE, if_neg hn]
      have hkc : k ≤ cb := by omega
      clear hn
      have HPV := hide PV
      have HPE := hide PE
      clear PV PE
      go_wp2_with fail
      refine (parse_any _ _ _ _ _ _ hqk hB hkc hmb).mono ?_
      rintro e wd ⟨he, hbd⟩
      rw [HPV.out, HPE.out] at he
      subst he
      have W6 := hw.trans (hbd.mono hw.size)
      have hq6 := hq.below (hbd.mono hB)
      have hs6 := hbd.size
      go_wp2_with fail
      go_roundw
      case rel => exact ⟨k + 1, by omega, by go_num, W6.alloc W6.size _, hq6.alloc (by omega) _, by simp; omega⟩
      case measure => simp [intOf]; omega
    · obtain rfl : k = 16 := by omega
      have hn : ¬ ParOk (tok p0.toNat p1.toNat p2.toNat p3.toNat ++ [a1]) := fun x => by
        have := x.1
        rw [List.length_append, HT.out] at this
        simp at this
      have HPV : Hid (parV (tok p0.toNat p1.toNat p2.toNat p3.toNat ++ [a1]) = .agg #[.int .i64 0, .int .i64 0, .int .i64 0, .int .i64 0]) := hide (by rw [parV, if_neg hn])
      have HPE : Hid (parE (tok p0.toNat p1.toNat p2.toNat p3.toNat ++ [a1]) = 8) := hide (by rw [parE, if_neg hn])
      have tok1 : True := trivial
      clear hn
      go_wp2_with (first
        | (at_builtin; have _t := tok1; refine wpList_app rfl _ _ rfl (OwnB.nil wr wr.heap.size) rfl hq rfl (by rw [HT.out]; simp) (Nat.le_refl _) ?_; intro v1 w1 hown1 hg1 hb1 hat1; rw [List.nil_append] at hown1; clear tok1)
        | (at_builtin; refine wpList_app rfl _ _ rfl (hown1.alloc _) rfl (reads_lit1 w1 _ a1 rfl) rfl (by rw [HT.out]; simp) (by simp; exact Nat.le_succ_of_le hb1.size) ?_; intro v2 w2 hown2 hg2 hb2 hat2; obtain ⟨A2, c2, hv2, hc2, hm2, hq2⟩ := hown2.shape; subst hv2))
      have W6 := hw.trans (hb1.mono hw.size)
      have W7 := (W6.alloc W6.size (.cells #[.int .u8 (a1.toNat : Int)] 5)).trans (hb2.mono hw.size)
      refine (parse_any _ _ _ _ _ _ hq2 (Nat.le_refl _) hc2 hm2).mono ?_
      rintro e we ⟨he, hbe⟩
      rw [HPV.out, HPE.out] at he
      subst he
      have W8 := W7.trans (hbe.mono W7.size)
      have W9 := W8.alloc W8.size (.cells #[.int .i64 0, .int .i64 0, .int .i64 0, .int .i64 0] 58)
      go_wp2_with (first
        | (go_at_call 50; refine (hawake_any _).mono ?_; rintro e w' ⟨rfl, hb⟩))
      go_ret
      exact ⟨rfl, W9.trans (hb.mono W9.size)⟩
end Go.Proofs.Ytaoiekcoiooghaa
