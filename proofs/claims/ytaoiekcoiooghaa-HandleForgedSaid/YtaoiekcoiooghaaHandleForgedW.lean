/- The walk of 'HandleForged': it returns true. No condition. -/
import Derived.Test.YtaoiekcoiooghaaHn9
namespace Go.Proofs.Ytaoiekcoiooghaa
open Go.RowKit
set_option maxHeartbeats 4000000 in
set_option maxRecDepth 20000 in
theorem handleForged_walk (x00 x01 x02 x03 : Int) (a1 : Int) (a2 : UInt8) (w : World) (_w00 : -9223372036854775808 ≤ x00 ∧ x00 ≤ 9223372036854775807) (_w01 : -9223372036854775808 ≤ x01 ∧ x01 ≤ 9223372036854775807) (_w02 : -9223372036854775808 ≤ x02 ∧ x02 ≤ 9223372036854775807) (_w03 : -9223372036854775808 ≤ x03 ∧ x03 ≤ 9223372036854775807) (w1 : -9223372036854775808 ≤ a1 ∧ a1 ≤ 9223372036854775807) :
    Calls Try.prog 21 #[.agg #[.int .i64 x00, .int .i64 x01, .int .i64 x02, .int .i64 x03], .int .i64 a1, .int .u8 (a2.toNat : Int)] w fun e w' => e = .returned (.bool true) ∧ Below w.heap.size w w' := by
  clear _w00 _w01 _w02 _w03
  go_enter Try.func21, Try.ntmps21
  go_wp2_with fail
  have WB : Below w.heap.size w (w.alloc (.cells #[.int .i64 x00, .int .i64 x01, .int .i64 x02, .int .i64 x03] 58)) := (Below.refl _ _).alloc (Nat.le_refl _) _
  refine (hsome_any _ _ _ _ _).mono ?_
  rintro e wa ⟨p0, p1, p2, p3, hk, rfl, hba⟩
  have W1 := WB.trans (hba.mono WB.size)
  clear WB hba
  have HK := hide hk
  have e1 : encE p0 p1 p2 p3 = 0 := by rw [encE, if_pos hk]
  have e2 : encL p0 p1 p2 p3 = tok p0.toNat p1.toNat p2.toNat p3.toNat := by rw [encL, if_pos hk]
  have hlt := tok_length p0.toNat p1.toNat p2.toNat p3.toNat
  clear hk
  have E1 := hide e1
  have E2 := hide e2
  have HT := hide hlt
  clear e1 e2 hlt
  go_wp2_with fail
  refine (henc_any _ _ _ _ _).mono ?_
  rintro e wb ⟨vb, he, hownb, hbb⟩
  have W2 := W1.trans (hbb.mono W1.size)
  obtain ⟨Ab, cb, hvb, hcb, hmb, hqb⟩ := hownb.shape
  rw [E2.out, HT.out] at hqb hcb hvb
  rw [E1.out] at he
  subst he hvb
  clear hownb hbb W1 E1 E2
  by_cases h2 : a2.toNat = 0
  · have h2b : ((a2.toNat : Int) == 0) = true := by rw [beq_iff_eq]; omega
    clear h2
    go_wp2_with fail
    go_ret
    exact ⟨rfl, W2⟩
  · have h2b : ((a2.toNat : Int) == 0) = false := by rw [beq_eq_false_iff_ne]; omega
    by_cases h1 : a1 < 0
    · clear h2
      go_wp2_with fail
      go_ret
      exact ⟨rfl, W2⟩
    · have h1' : 0 ≤ a1 := by omega
      obtain ⟨k, hk⟩ := Int.eq_ofNat_of_zero_le (show 0 ≤ a1 % 16 from Int.emod_nonneg _ (by omega))
      have hkl : k < (tok p0.toNat p1.toNat p2.toNat p3.toNat).length := by rw [HT.out]; omega
      have hk16 : k < 16 := by omega
      have hne : (tok p0.toNat p1.toNat p2.toNat p3.toNat)[k] ^^^ a2 ≠ (tok p0.toNat p1.toNat p2.toNat p3.toNat)[k] := xor_ne h2
      have hx := xor_u8 (tok p0.toNat p1.toNat p2.toNat p3.toNat)[k] a2
      have hn := tok_forged p0.toNat p1.toNat p2.toNat p3.toNat k hkl _ hne
      have hsl : ((tok p0.toNat p1.toNat p2.toNat p3.toNat).set k ((tok p0.toNat p1.toNat p2.toNat p3.toNat)[k] ^^^ a2)).length = 16 := List.length_set.trans HT.out
      generalize hy : (tok p0.toNat p1.toNat p2.toNat p3.toNat)[k] ^^^ a2 = y at *
      generalize hl1 : (tok p0.toNat p1.toNat p2.toNat p3.toNat).set k y = l1 at *
      have HPV : Hid (parV l1 = .agg #[.int .i64 0, .int .i64 0, .int .i64 0, .int .i64 0]) := hide (by rw [parV, if_neg hn])
      have HPE : Hid (parE l1 = 8) := hide (by rw [parE, if_neg hn])
      have HL := hide hl1
      have HSL := hide hsl
      clear h1 h2 hne hn hy hl1 hsl
      go_wp2_with (first
        | (at_builtin; refine wpList_app rfl _ _ rfl (OwnB.nil wb wb.heap.size) rfl hqb rfl (by rw [HT.out]; simp) (Nat.le_refl _) ?_; intro v1 w2 hown1 hg1 hb1 hat1; rw [List.nil_append] at hown1; obtain ⟨g, c1, hv1, hc1, hm1, hgb, hgs, hcell, hfr, hst⟩ := hown1.head (by rw [HT.out]; decide); rw [HT.out] at hv1 hc1; subst hv1; have hck := hcell k hkl; have hfk := hfr k; have hsk := hst k y; clear hcell hfr hst hown1))
      generalize hz : bits BinOp.xor IntKind.u8 _ _ = z
      obtain rfl : z = (y.toNat : Int) := by rw [← hz]; exact hx
      clear hz
      have hsk' := hsk
      rw [HL.out] at hsk'
      have hr1 := hsk'.reads.2
      have W3 := (W2.trans (hb1.mono W2.size)).setCell (p := ⟨g, k, none⟩) (Nat.le_trans W2.size hgb) (.int .u8 (y.toNat : Int))
      generalize w2.setCell ⟨g, k, none⟩ (.int .u8 (y.toNat : Int)) = wS at *
      refine (parse_any _ _ _ _ _ _ hr1 (Nat.le_refl _) hc1 hm1).mono ?_
      rintro e we ⟨he, hbe⟩
      rw [HPV.out, HPE.out] at he
      subst he
      have W8 := W3.trans (hbe.mono W3.size)
      have W9 := W8.alloc W8.size (.cells #[.int .i64 0, .int .i64 0, .int .i64 0, .int .i64 0] 58)
      clear hck hfk hx
      go_wp2_with (first
        | (go_at_call 50; refine (hawake_any _).mono ?_; rintro e w' ⟨rfl, hb⟩))
      go_ret
      exact ⟨rfl, W9.trans (hb.mono W9.size)⟩
end Go.Proofs.Ytaoiekcoiooghaa
