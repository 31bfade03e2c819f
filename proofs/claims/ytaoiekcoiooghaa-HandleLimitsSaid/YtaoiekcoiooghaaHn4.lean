/- The contract of the receipt handles' Parse of the program. Condition: the slice reads as a list of bytes. -/
import Derived.Test.YtaoiekcoiooghaaHn5
import Derived.Deep.RegionWith
import Derived.BigRegion
import Derived.Deep.DeepCutAuto
namespace Go.Proofs.Ytaoiekcoiooghaa
open Go.RowKit
set_option maxHeartbeats 4000000 in
set_option maxRecDepth 20000 in
theorem parse_any (l : List UInt8) (B : Nat) (A : Option Addr) (n c : Nat) (w : World) (hr : Reads w B A n (bvs l)) (hB : B ≤ w.heap.size) (hc : n ≤ c) (hcm : c ≤ maxLen) :
    Calls Try.prog 77 #[.slice A n c] w (RetP w l) := by
  have hln : l.length = n := by have := hr.1; rwa [bvs_length] at this
  by_cases h16 : n = 16
  · subst h16
    have i0 : ∀ (b : Nat) w, (Instr.index 118 (.agg #[.pointer (some ⟨b, 0, none⟩), .int .i64 4, .pointer (some ⟨b, 1, none⟩), .int .i64 3, .pointer (some ⟨b, 2, none⟩), .int .i64 2, .pointer (some ⟨b, 3, none⟩), .int .i64 1]) (.int .i64 0)).run Try.prog w = .ok (.agg #[.pointer (some ⟨b, 0, none⟩), .int .i64 4]) w := fun _ _ => by kernel_rfl
    have i1 : ∀ (b : Nat) w, (Instr.index 118 (.agg #[.pointer (some ⟨b, 0, none⟩), .int .i64 4, .pointer (some ⟨b, 1, none⟩), .int .i64 3, .pointer (some ⟨b, 2, none⟩), .int .i64 2, .pointer (some ⟨b, 3, none⟩), .int .i64 1]) (.int .i64 1)).run Try.prog w = .ok (.agg #[.pointer (some ⟨b, 1, none⟩), .int .i64 3]) w := fun _ _ => by kernel_rfl
    have i2 : ∀ (b : Nat) w, (Instr.index 118 (.agg #[.pointer (some ⟨b, 0, none⟩), .int .i64 4, .pointer (some ⟨b, 1, none⟩), .int .i64 3, .pointer (some ⟨b, 2, none⟩), .int .i64 2, .pointer (some ⟨b, 3, none⟩), .int .i64 1]) (.int .i64 2)).run Try.prog w = .ok (.agg #[.pointer (some ⟨b, 2, none⟩), .int .i64 2]) w := fun _ _ => by kernel_rfl
    have i3 : ∀ (b : Nat) w, (Instr.index 118 (.agg #[.pointer (some ⟨b, 0, none⟩), .int .i64 4, .pointer (some ⟨b, 1, none⟩), .int .i64 3, .pointer (some ⟨b, 2, none⟩), .int .i64 2, .pointer (some ⟨b, 3, none⟩), .int .i64 1]) (.int .i64 3)).run Try.prog w = .ok (.agg #[.pointer (some ⟨b, 3, none⟩), .int .i64 1]) w := fun _ _ => by kernel_rfl
    have G0 : ∀ W, Reads W B A 16 (bvs l) → Calls Try.prog 56 #[.slice A 16 c, .int .i64 1, .int .i64 4] W fun e w' => e = .returned (.tuple #[.int .i64 (pF0 l : Nat), .int .i64 0]) ∧ W = w' := fun W h => get_ok l B A 16 c 1 4 W h hc hcm (by decide) (by decide) (by decide)
    have G1 : ∀ W, Reads W B A 16 (bvs l) → Calls Try.prog 56 #[.slice A 16 c, .int .i64 5, .int .i64 3] W fun e w' => e = .returned (.tuple #[.int .i64 (pF1 l : Nat), .int .i64 0]) ∧ W = w' := fun W h => get_ok l B A 16 c 5 3 W h hc hcm (by decide) (by decide) (by decide)
    have G2 : ∀ W, Reads W B A 16 (bvs l) → Calls Try.prog 56 #[.slice A 16 c, .int .i64 8, .int .i64 2] W fun e w' => e = .returned (.tuple #[.int .i64 (pF2 l : Nat), .int .i64 0]) ∧ W = w' := fun W h => get_ok l B A 16 c 8 2 W h hc hcm (by decide) (by decide) (by decide)
    have G3 : ∀ W, Reads W B A 16 (bvs l) → Calls Try.prog 56 #[.slice A 16 c, .int .i64 10, .int .i64 1] W fun e w' => e = .returned (.tuple #[.int .i64 (pF3 l : Nat), .int .i64 0]) ∧ W = w' := fun W h => get_ok l B A 16 c 10 1 W h hc hcm (by decide) (by decide) (by decide)
    have K0 := hide G0
    have K1 := hide G1
    have K2 := hide G2
    have K3 := hide G3
    clear G0 G1 G2 G3
    have HL := hide hln
    clear hln
    go_enter Try.func77, Try.ntmps77
    have hP : PSt w ((w.alloc (.cells #[.int .i64 0, .int .i64 0, .int .i64 0, .int .i64 0] 58)).alloc (.cells #[.int .i64 0, .int .i64 0, .int .i64 0, .int .i64 0] 58)) B A l 0 0 0 0 := by
      have X1 := Box4.new (w.alloc (.cells #[.int .i64 0, .int .i64 0, .int .i64 0, .int .i64 0] 58)) (.int .i64 0) (.int .i64 0) (.int .i64 0) (.int .i64 0) 58
      have F1 := Free.new (w.alloc (.cells #[.int .i64 0, .int .i64 0, .int .i64 0, .int .i64 0] 58)) #[.int .i64 0, .int .i64 0, .int .i64 0, .int .i64 0] 58
      rw [World.size_alloc] at X1 F1
      exact ⟨((Below.refl _ _).alloc (Nat.le_refl _) _).alloc (by simp) _, (Box4.new w _ _ _ _ 58).alloc _, (Free.new w _ 58).alloc (by simp) _, X1, F1, (hr.alloc hB _).alloc (by simp; omega) _, hB⟩
    clear hr
    go_wp2_with fail
    generalize (w.alloc (.cells #[.int .i64 0, .int .i64 0, .int .i64 0, .int .i64 0] 58)).alloc (.cells #[.int .i64 0, .int .i64 0, .int .i64 0, .int .i64 0] 58) = wx0 at *
    refine wp_loop_rounds 5 ?_
    rw [rounds_succ]
    have hQ0 := hP.alloc (.cells #[.pointer (some ⟨w.heap.size + 1, 0, none⟩), .int .i64 4] 117)
    have hZ0 := box_far wx0 (w.heap.size + 1) 0 hP.2.2.2.1.1 (.pointer (some ⟨w.heap.size + 1, 0, none⟩)) (.int .i64 (pF0 l : Nat)) 4
    have hS0 := hQ0.set0 (pF0 l : Nat)
    have hR0 := hQ0.2.2.2.2.2.1
    have hC0 := hQ0.2.2.2.1
    have hF0 := hQ0.2.2.2.2.1 0
    obtain ⟨_, q0, q1, q2, q3⟩ := hC0
    go_upto_region 8 with fail
    go_cut [26] (fun _ wy => ∃ z, z = wy ∧ PSt w z B A l (pF0 l : Nat) 0 0 0 ∧ z.cell? ⟨wx0.heap.size, 1, none⟩ = some (.int .i64 4))
    case first =>
      go_region_with (go_at_call 56; refine (K0.out _ hR0.drew).mono ?_; rintro e w' ⟨rfl, rfl⟩)
      all_goals (go_wp2_with fail; go_meet; exact ⟨_, rfl, hS0.drew, hZ0⟩)
    obtain ⟨wx1, hwx1, hP1, hB1⟩ := hcut
    subst hwx1
    clear hQ0 hS0 hZ0 hR0 hF0 q0 q1 q2 q3 hP
    go_wp2_with fail
    rw [rounds_succ]
    have hQ1 := hP1.alloc (.cells #[.pointer (some ⟨w.heap.size + 1, 1, none⟩), .int .i64 3] 117)
    have hZ1 := box_far wx1 (w.heap.size + 1) 1 hP1.2.2.2.1.1 (.pointer (some ⟨w.heap.size + 1, 1, none⟩)) (.int .i64 (pF1 l : Nat)) 3
    have hS1 := hQ1.set1 (pF1 l : Nat)
    have hR1 := hQ1.2.2.2.2.2.1
    have hC1 := hQ1.2.2.2.1
    have hF1 := hQ1.2.2.2.2.1 1
    obtain ⟨_, q0, q1, q2, q3⟩ := hC1
    go_upto_region 8 with fail
    go_cut [26] (fun _ wy => ∃ z, z = wy ∧ PSt w z B A l (pF0 l : Nat) (pF1 l : Nat) 0 0 ∧ z.cell? ⟨wx1.heap.size, 1, none⟩ = some (.int .i64 3))
    case first =>
      go_region_with (go_at_call 56; refine (K1.out _ hR1.drew).mono ?_; rintro e w' ⟨rfl, rfl⟩)
      all_goals (go_wp2_with fail; go_meet; exact ⟨_, rfl, hS1.drew, hZ1⟩)
    obtain ⟨wx2, hwx2, hP2, hB2⟩ := hcut
    subst hwx2
    clear hQ1 hS1 hZ1 hR1 hF1 q0 q1 q2 q3 hP1
    go_wp2_with fail
    rw [rounds_succ]
    have hQ2 := hP2.alloc (.cells #[.pointer (some ⟨w.heap.size + 1, 2, none⟩), .int .i64 2] 117)
    have hZ2 := box_far wx2 (w.heap.size + 1) 2 hP2.2.2.2.1.1 (.pointer (some ⟨w.heap.size + 1, 2, none⟩)) (.int .i64 (pF2 l : Nat)) 2
    have hS2 := hQ2.set2 (pF2 l : Nat)
    have hR2 := hQ2.2.2.2.2.2.1
    have hC2 := hQ2.2.2.2.1
    have hF2 := hQ2.2.2.2.2.1 2
    obtain ⟨_, q0, q1, q2, q3⟩ := hC2
    go_upto_region 8 with fail
    go_cut [26] (fun _ wy => ∃ z, z = wy ∧ PSt w z B A l (pF0 l : Nat) (pF1 l : Nat) (pF2 l : Nat) 0 ∧ z.cell? ⟨wx2.heap.size, 1, none⟩ = some (.int .i64 2))
    case first =>
      go_region_with (go_at_call 56; refine (K2.out _ hR2.drew).mono ?_; rintro e w' ⟨rfl, rfl⟩)
      all_goals (go_wp2_with fail; go_meet; exact ⟨_, rfl, hS2.drew, hZ2⟩)
    obtain ⟨wx3, hwx3, hP3, hB3⟩ := hcut
    subst hwx3
    clear hQ2 hS2 hZ2 hR2 hF2 q0 q1 q2 q3 hP2
    go_wp2_with fail
    rw [rounds_succ]
    have hQ3 := hP3.alloc (.cells #[.pointer (some ⟨w.heap.size + 1, 3, none⟩), .int .i64 1] 117)
    have hZ3 := box_far wx3 (w.heap.size + 1) 3 hP3.2.2.2.1.1 (.pointer (some ⟨w.heap.size + 1, 3, none⟩)) (.int .i64 (pF3 l : Nat)) 1
    have hS3 := hQ3.set3 (pF3 l : Nat)
    have hR3 := hQ3.2.2.2.2.2.1
    have hC3 := hQ3.2.2.2.1
    have hF3 := hQ3.2.2.2.2.1 3
    obtain ⟨_, q0, q1, q2, q3⟩ := hC3
    go_upto_region 8 with fail
    go_cut [26] (fun _ wy => ∃ z, z = wy ∧ PSt w z B A l (pF0 l : Nat) (pF1 l : Nat) (pF2 l : Nat) (pF3 l : Nat) ∧ z.cell? ⟨wx3.heap.size, 1, none⟩ = some (.int .i64 1))
    case first =>
      go_region_with (go_at_call 56; refine (K3.out _ hR3.drew).mono ?_; rintro e w' ⟨rfl, rfl⟩)
      all_goals (go_wp2_with fail; go_meet; exact ⟨_, rfl, hS3.drew, hZ3⟩)
    obtain ⟨wx4, hwx4, hP4, hB4⟩ := hcut
    subst hwx4
    clear hQ3 hS3 hZ3 hR3 hF3 q0 q1 q2 q3 hP3
    go_wp2_with fail
    rw [rounds_succ]
    have hS4 := hP4.1
    have X0 := hP4.2.1
    have F0 := hP4.2.2.1
    have X1 := hP4.2.2.2.1
    have hr0 := hP4.2.2.2.2.2.1
    have hX1 := X1
    obtain ⟨_, q0, q1, q2, q3⟩ := hX1
    clear hP4 hB4
    go_wp2_with fail
    refine (henc_any _ _ _ _ _).mono ?_
    rintro e w1 ⟨v1, he, hown1, hb1⟩
    have W1 := hS4.trans (hb1.mono hS4.size)
    have X01 := X0.below hb1 X0.1
    have X11 := X1.below hb1 X1.1
    have F01 := F0.below hb1 X0.1
    have hr1 := hr0.below (hb1.mono (Nat.le_trans hB hS4.size))
    clear X0 X1 F0 hr0 hb1 hS4 q0 q1 q2 q3
    obtain ⟨A1, c1, hv1, hc1, hm1, hq1⟩ := hown1.shape
    obtain ⟨x0s, x00, x01, x02, x03⟩ := X01
    obtain ⟨x1s, x10, x11, x12, x13⟩ := X11
    have f0 := F01 0
    have f1 := F01 1
    have f2 := F01 2
    have f3 := F01 3
    subst he hv1
    clear hown1 F01
    by_cases hk : HOk (pF0 l) (pF1 l) (pF2 l) (pF3 l)
    · have e1 : encE (pF0 l) (pF1 l) (pF2 l) (pF3 l) = 0 := by rw [encE, if_pos hk]
      have e2 : encL (pF0 l) (pF1 l) (pF2 l) (pF3 l) = tok (pF0 l) (pF1 l) (pF2 l) (pF3 l) := by rw [encL, if_pos hk]; simp only [Int.toNat_natCast]
      rw [e1]
      rw [e2] at hq1 hc1 ⊢
      by_cases ht : tok (pF0 l) (pF1 l) (pF2 l) (pF3 l) = l
      · have HV : Hid (parV l = .agg #[.int .i64 (pF0 l : Nat), .int .i64 (pF1 l : Nat), .int .i64 (pF2 l : Nat), .int .i64 (pF3 l : Nat)]) := hide (by rw [parV, if_pos ⟨HL.out, hk, ht⟩])
        have HE : Hid (parE l = 0) := hide (by rw [parE, if_pos ⟨HL.out, hk, ht⟩])
        have hd : decide (tok (pF0 l) (pF1 l) (pF2 l) (pF3 l) = l) = true := decide_eq_true ht
        have hlt := tok_length (pF0 l) (pF1 l) (pF2 l) (pF3 l)
        rw [hlt] at hq1 hc1 ⊢
        clear e1 e2 hk ht hlt
        go_wp2_with fail
        refine (equal_any _ _ _ _ _ _ _ _ _ _ _ hq1 (Nat.le_refl _) hr1 (Nat.le_trans hB W1.size) (by decide) (by decide)).mono ?_
        rintro e w2 ⟨rfl, hb2⟩
        rw [hd]
        have W2 := W1.trans (hb2.mono W1.size)
        have X02 := (show Box4 w1 w.heap.size (.int .i64 0) (.int .i64 0) (.int .i64 0) (.int .i64 0) from ⟨x0s, x00, x01, x02, x03⟩).below hb2 x0s
        have X12 := (show Box4 w1 (w.heap.size + 1) (.int .i64 (pF0 l : Nat)) (.int .i64 (pF1 l : Nat)) (.int .i64 (pF2 l : Nat)) (.int .i64 (pF3 l : Nat)) from ⟨x1s, x10, x11, x12, x13⟩).below hb2 x1s
        have f20 := (hb2.frozen (p := ⟨w.heap.size, 0, none⟩) x0s).trans f0
        have f21 := (hb2.frozen (p := ⟨w.heap.size, 1, none⟩) x0s).trans f1
        have f22 := (hb2.frozen (p := ⟨w.heap.size, 2, none⟩) x0s).trans f2
        have f23 := (hb2.frozen (p := ⟨w.heap.size, 3, none⟩) x0s).trans f3
        obtain ⟨x0s2, x002, x012, x022, x032⟩ := X02
        obtain ⟨x1s2, x102, x112, x122, x132⟩ := X12
        clear x00 x01 x02 x03 x10 x11 x12 x13 f0 f1 f2 f3 hb2 hd
        go_wp2_with fail
        refine bodyPost_ret (v := .tuple #[.agg #[.int .i64 (pF0 l : Nat), .int .i64 (pF1 l : Nat), .int .i64 (pF2 l : Nat), .int .i64 (pF3 l : Nat)], .int .i64 0]) (by simp [results, Try.results77, go_sem, x002, x012, x022, x032]) rfl ⟨by rw [HV.out, HE.out], ?_⟩
        exact (((W2.setCell (Nat.le_refl _) _).setCell (Nat.le_refl _) _).setCell (Nat.le_refl _) _).setCell (Nat.le_refl _) _
      · have HV : Hid (parV l = .agg #[.int .i64 0, .int .i64 0, .int .i64 0, .int .i64 0]) := hide (by rw [parV, if_neg (fun x => ht x.2.2)])
        have HE : Hid (parE l = 8) := hide (by rw [parE, if_neg (fun x => ht x.2.2)])
        have hd : decide (tok (pF0 l) (pF1 l) (pF2 l) (pF3 l) = l) = false := decide_eq_false ht
        have hlt := tok_length (pF0 l) (pF1 l) (pF2 l) (pF3 l)
        rw [hlt] at hq1 hc1 ⊢
        clear e1 e2 hk ht hlt
        go_wp2_with fail
        refine (equal_any _ _ _ _ _ _ _ _ _ _ _ hq1 (Nat.le_refl _) hr1 (Nat.le_trans hB W1.size) (by decide) (by decide)).mono ?_
        rintro e w2 ⟨rfl, hb2⟩
        rw [hd]
        have W2 := W1.trans (hb2.mono W1.size)
        have X02 := (show Box4 w1 w.heap.size (.int .i64 0) (.int .i64 0) (.int .i64 0) (.int .i64 0) from ⟨x0s, x00, x01, x02, x03⟩).below hb2 x0s
        have X12 := (show Box4 w1 (w.heap.size + 1) (.int .i64 (pF0 l : Nat)) (.int .i64 (pF1 l : Nat)) (.int .i64 (pF2 l : Nat)) (.int .i64 (pF3 l : Nat)) from ⟨x1s, x10, x11, x12, x13⟩).below hb2 x1s
        have f20 := (hb2.frozen (p := ⟨w.heap.size, 0, none⟩) x0s).trans f0
        have f21 := (hb2.frozen (p := ⟨w.heap.size, 1, none⟩) x0s).trans f1
        have f22 := (hb2.frozen (p := ⟨w.heap.size, 2, none⟩) x0s).trans f2
        have f23 := (hb2.frozen (p := ⟨w.heap.size, 3, none⟩) x0s).trans f3
        obtain ⟨x0s2, x002, x012, x022, x032⟩ := X02
        obtain ⟨x1s2, x102, x112, x122, x132⟩ := X12
        clear x00 x01 x02 x03 x10 x11 x12 x13 f0 f1 f2 f3 hb2 hd
        go_wp2_with fail
        refine bodyPost_ret (v := .tuple #[.agg #[.int .i64 0, .int .i64 0, .int .i64 0, .int .i64 0], .int .i64 8]) (by simp [results, Try.results77, go_sem, x002, x012, x022, x032]) rfl ⟨by rw [HV.out, HE.out], ?_⟩
        exact (((W2.setCell (Nat.le_refl _) _).setCell (Nat.le_refl _) _).setCell (Nat.le_refl _) _).setCell (Nat.le_refl _) _
    · have e1 : encE (pF0 l) (pF1 l) (pF2 l) (pF3 l) = 1 := by rw [encE, if_neg hk]
      have HV : Hid (parV l = .agg #[.int .i64 0, .int .i64 0, .int .i64 0, .int .i64 0]) := hide (by rw [parV, if_neg (fun x => hk x.2.1)])
      have HE : Hid (parE l = 8) := hide (by rw [parE, if_neg (fun x => hk x.2.1)])
      rw [e1]
      clear e1 hk
      go_wp2_with fail
      refine bodyPost_ret (v := .tuple #[.agg #[.int .i64 0, .int .i64 0, .int .i64 0, .int .i64 0], .int .i64 8]) (by simp [results, Try.results77, go_sem, x00, x01, x02, x03]) rfl ⟨by rw [HV.out, HE.out], ?_⟩
      exact (((W1.setCell (Nat.le_refl _) _).setCell (Nat.le_refl _) _).setCell (Nat.le_refl _) _).setCell (Nat.le_refl _) _
  · have h1 : (n : Int) < 16 ∨ 16 < (n : Int) := by omega
    have hv : parV l = .agg #[.int .i64 0, .int .i64 0, .int .i64 0, .int .i64 0] := by rw [parV, if_neg (fun x => h16 (hln.symm.trans x.1))]
    have he : parE l = 8 := by rw [parE, if_neg (fun x => h16 (hln.symm.trans x.1))]
    have HV := hide hv
    have HE := hide he
    have hb : ((n : Int) != 16) = true := by rw [bne_iff_ne]; omega
    have X0 := Box4.new w (.int .i64 0) (.int .i64 0) (.int .i64 0) (.int .i64 0) 58
    have F0 := Free.new w #[.int .i64 0, .int .i64 0, .int .i64 0, .int .i64 0] 58
    have f0 := F0 0
    have f1 := F0 1
    have f2 := F0 2
    have f3 := F0 3
    obtain ⟨x0s, x00, x01, x02, x03⟩ := X0
    have WB : Below w.heap.size w (w.alloc (.cells #[.int .i64 0, .int .i64 0, .int .i64 0, .int .i64 0] 58)) := (Below.refl _ _).alloc (Nat.le_refl _) _
    clear hln h16 h1 hv he F0
    go_enter Try.func77, Try.ntmps77
    go_wp2_with fail
    refine bodyPost_ret (v := .tuple #[.agg #[.int .i64 0, .int .i64 0, .int .i64 0, .int .i64 0], .int .i64 8]) (by simp [results, Try.results77, go_sem, x00, x01, x02, x03]) rfl ⟨by rw [HV.out, HE.out], ?_⟩
    first | exact WB | exact (Below.refl _ _).alloc (Nat.le_refl _) _ | exact (((WB.setCell (p := ⟨w.heap.size, 0, none⟩) (Nat.le_refl _) _).setCell (p := ⟨w.heap.size, 1, none⟩) (Nat.le_refl _) _).setCell (p := ⟨w.heap.size, 2, none⟩) (Nat.le_refl _) _).setCell (p := ⟨w.heap.size, 3, none⟩) (Nat.le_refl _) _
end Go.Proofs.Ytaoiekcoiooghaa
