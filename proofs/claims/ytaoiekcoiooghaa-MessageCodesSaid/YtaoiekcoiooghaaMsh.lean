/- The contract of the messages' Decode of the program. Condition: the slice reads as a list of bytes. -/
import Derived.Test.YtaoiekcoiooghaaMsg
namespace Go.Proofs.Ytaoiekcoiooghaa
open Go.RowKit
set_option maxHeartbeats 8000000 in
set_option maxRecDepth 20000 in
theorem mdec_any (l : List UInt8) (B : Nat) (A : Option Addr) (n c : Nat) (w : World) (hr : Reads w B A n (bvs l)) (hB : B ≤ w.heap.size) (hc : n ≤ c) (hcm : c ≤ maxLen) :
    Calls Try.prog 90 #[.slice A n c] w (RetD w l) := by
  have hln : l.length = n := by have := hr.1; rwa [bvs_length] at this
  have hnm : n ≤ maxLen := Nat.le_trans hc hcm
  have hn63 : n ≤ 9223372036854775807 := hnm
  have i0 : ∀ (b : Nat) w, (Instr.index 120 (.agg #[.pointer (some ⟨b, 0, none⟩), .pointer (some ⟨b, 1, none⟩), .pointer (some ⟨b, 2, none⟩), .pointer (some ⟨b, 3, none⟩), .pointer (some ⟨b, 4, none⟩), .pointer (some ⟨b, 5, none⟩)]) (.int .i64 0)).run Try.prog w = .ok (.pointer (some ⟨b, 0, none⟩)) w := fun _ _ => by kernel_rfl
  have i1 : ∀ (b : Nat) w, (Instr.index 120 (.agg #[.pointer (some ⟨b, 0, none⟩), .pointer (some ⟨b, 1, none⟩), .pointer (some ⟨b, 2, none⟩), .pointer (some ⟨b, 3, none⟩), .pointer (some ⟨b, 4, none⟩), .pointer (some ⟨b, 5, none⟩)]) (.int .i64 1)).run Try.prog w = .ok (.pointer (some ⟨b, 1, none⟩)) w := fun _ _ => by kernel_rfl
  have i2 : ∀ (b : Nat) w, (Instr.index 120 (.agg #[.pointer (some ⟨b, 0, none⟩), .pointer (some ⟨b, 1, none⟩), .pointer (some ⟨b, 2, none⟩), .pointer (some ⟨b, 3, none⟩), .pointer (some ⟨b, 4, none⟩), .pointer (some ⟨b, 5, none⟩)]) (.int .i64 2)).run Try.prog w = .ok (.pointer (some ⟨b, 2, none⟩)) w := fun _ _ => by kernel_rfl
  have i3 : ∀ (b : Nat) w, (Instr.index 120 (.agg #[.pointer (some ⟨b, 0, none⟩), .pointer (some ⟨b, 1, none⟩), .pointer (some ⟨b, 2, none⟩), .pointer (some ⟨b, 3, none⟩), .pointer (some ⟨b, 4, none⟩), .pointer (some ⟨b, 5, none⟩)]) (.int .i64 3)).run Try.prog w = .ok (.pointer (some ⟨b, 3, none⟩)) w := fun _ _ => by kernel_rfl
  have i4 : ∀ (b : Nat) w, (Instr.index 120 (.agg #[.pointer (some ⟨b, 0, none⟩), .pointer (some ⟨b, 1, none⟩), .pointer (some ⟨b, 2, none⟩), .pointer (some ⟨b, 3, none⟩), .pointer (some ⟨b, 4, none⟩), .pointer (some ⟨b, 5, none⟩)]) (.int .i64 4)).run Try.prog w = .ok (.pointer (some ⟨b, 4, none⟩)) w := fun _ _ => by kernel_rfl
  have i5 : ∀ (b : Nat) w, (Instr.index 120 (.agg #[.pointer (some ⟨b, 0, none⟩), .pointer (some ⟨b, 1, none⟩), .pointer (some ⟨b, 2, none⟩), .pointer (some ⟨b, 3, none⟩), .pointer (some ⟨b, 4, none⟩), .pointer (some ⟨b, 5, none⟩)]) (.int .i64 5)).run Try.prog w = .ok (.pointer (some ⟨b, 5, none⟩)) w := fun _ _ => by kernel_rfl
  have G : ∀ (W : World) (a : Nat) (z : Int), Reads W B A n (bvs l) → z = (a : Int) → a ≤ n → Calls Try.prog 53 #[.slice A n c, .int .i64 z] W fun e w' => e = .returned (.tuple #[.int .i64 (gvR l a).1, .int .i64 (gvR l a).2.1, .int .i64 (gvR l a).2.2]) ∧ W = w' := by
    intro W a z h hz ha
    subst hz
    exact getvar_any l B A n c a W h hnm (Nat.le_trans ha hn63)
  have K := hide G
  have G2 : ∀ (W : World) (a : Nat), Reads W B A n (bvs l) → a ≤ n → Calls Try.prog 60 #[.slice A n c, .int .i64 (a : Int), .int .i64 16] W fun e w' => e = .returned (.tuple #[.string (bstr (gtR l a 16).1), .int .i64 (gtR l a 16).2.1, .int .i64 (gtR l a 16).2.2]) ∧ W = w' :=
    fun W a h ha => gettext_any l B A n c a 16 W h hc hcm (by decide) (Nat.le_trans ha hn63)
  have K2 := hide G2
  clear G G2
  have X1 := Box7.new (w.alloc (.cells #[.int .i64 0, .int .i64 0, .int .i64 0, .int .i64 0, .int .i64 0, .int .i64 0, .string ⟨#[]⟩] 75)) 0 0 0 0 0 0 ⟨#[]⟩ 75
  have F1 := Free.new (w.alloc (.cells #[.int .i64 0, .int .i64 0, .int .i64 0, .int .i64 0, .int .i64 0, .int .i64 0, .string ⟨#[]⟩] 75)) #[.int .i64 0, .int .i64 0, .int .i64 0, .int .i64 0, .int .i64 0, .int .i64 0, .string ⟨#[]⟩] 75
  rw [World.size_alloc] at X1 F1
  have P0 : DSt w ((w.alloc (.cells #[.int .i64 0, .int .i64 0, .int .i64 0, .int .i64 0, .int .i64 0, .int .i64 0, .string ⟨#[]⟩] 75)).alloc (.cells #[.int .i64 0, .int .i64 0, .int .i64 0, .int .i64 0, .int .i64 0, .int .i64 0, .string ⟨#[]⟩] 75)) B n A l 0 0 0 0 0 0 ⟨#[]⟩ :=
    ⟨((Below.refl _ _).alloc (Nat.le_refl _) _).alloc (by simp) _, (Box7.new w 0 0 0 0 0 0 ⟨#[]⟩ 75).alloc _, (Free.new w _ 75).alloc (by simp) _, X1, F1, (hr.alloc hB _).alloc (by simp; omega) _, hB⟩
  have HL := hide hln
  have D0 := hide (dec_zero l)
  have ha0 : 0 ≤ n := Nat.zero_le _
  clear X1 F1 hr hln hn63 hnm
  go_enter Try.func90, Try.ntmps90
  go_wp2_with fail
  generalize (w.alloc (.cells #[.int .i64 0, .int .i64 0, .int .i64 0, .int .i64 0, .int .i64 0, .int .i64 0, .string ⟨#[]⟩] 75)).alloc (.cells #[.int .i64 0, .int .i64 0, .int .i64 0, .int .i64 0, .int .i64 0, .int .i64 0, .string ⟨#[]⟩] 75) = wx0 at *
  refine wp_loop_rounds 7 ?_
  rw [rounds_succ]
  have hR := P0.2.2.2.2.2.1
  go_wp2_with fail
  refine (K.out _ 0 _ hR rfl ha0).mono ?_
  rintro e w' ⟨he, rfl⟩
  rcases hg : gv 6 0 0 (l.drop 0) with _ | ⟨n0, j0⟩
  · rw [gvR_none hg] at he
    subst he
    obtain ⟨W0, XR, FR, _, _, _, _⟩ := id P0
    obtain ⟨_, p0, p1, p2, p3, p4, p5, p6⟩ := XR
    have f0 := FR 0
    have f1 := FR 1
    have f2 := FR 2
    have f3 := FR 3
    have f4 := FR 4
    have f5 := FR 5
    have f6 := FR 6
    have hf := dec_fail (decR_none (dec_up (dec_succ_none D0.out hg) 5))
    have HV := hide hf.1
    have HE := hide hf.2
    clear hf hg
    go_wp2_with fail
    refine bodyPost_ret (v := .tuple #[mZ, .int .i64 8]) (by simp [results, Try.results90, go_sem, p0, p1, p2, p3, p4, p5, p6]) rfl ⟨by rw [HV.out, HE.out], ?_⟩
    exact below7 W0 (Nat.le_refl _) _ _ _ _ _ _ _
  rw [gvR_some hg] at he
  have d1 := dec_succ_some D0.out hg
  obtain ⟨a1, e1⟩ : ∃ a : Nat, a = 0 + j0 := ⟨_, rfl⟩
  rw [← e1] at d1 he
  subst he
  have ha1 := dec_six d1 HL.out
  have D1 := hide d1
  clear d1 e1 hg D0 hR
  obtain ⟨W0, XR, FR, XM, FM, hR, _⟩ := id P0
  obtain ⟨_, q0, q1, q2, q3, q4, q5, q6⟩ := XM
  have g0 := FM 0
  clear FM q1 q2 q3 q4 q5 q6
  go_wp2_with fail
  have P1 := P0.set0 (n0 : Int)
  generalize wx0.setCell ⟨w.heap.size + 1, 0, none⟩ (.int .i64 (n0 : Int)) = wx1 at *
  clear P0 W0 hR q0 g0 XR FR
  rw [rounds_succ]
  have hR := P1.2.2.2.2.2.1
  go_wp2_with fail
  refine (K.out _ a1 _ hR rfl ha1).mono ?_
  rintro e w' ⟨he, rfl⟩
  rcases hg : gv 6 0 0 (l.drop a1) with _ | ⟨n1, j1⟩
  · rw [gvR_none hg] at he
    subst he
    obtain ⟨W1, XR, FR, _, _, _, _⟩ := id P1
    obtain ⟨_, p0, p1, p2, p3, p4, p5, p6⟩ := XR
    have f0 := FR 0
    have f1 := FR 1
    have f2 := FR 2
    have f3 := FR 3
    have f4 := FR 4
    have f5 := FR 5
    have f6 := FR 6
    have hf := dec_fail (decR_none (dec_up (dec_succ_none D1.out hg) 4))
    have HV := hide hf.1
    have HE := hide hf.2
    clear hf hg
    go_wp2_with fail
    refine bodyPost_ret (v := .tuple #[mZ, .int .i64 8]) (by simp [results, Try.results90, go_sem, p0, p1, p2, p3, p4, p5, p6]) rfl ⟨by rw [HV.out, HE.out], ?_⟩
    exact below7 W1 (Nat.le_refl _) _ _ _ _ _ _ _
  rw [gvR_some hg] at he
  have d2 := dec_succ_some D1.out hg
  obtain ⟨a2, e2⟩ : ∃ a : Nat, a = a1 + j1 := ⟨_, rfl⟩
  rw [← e2] at d2 he
  subst he
  have ha2 := dec_six d2 HL.out
  have D2 := hide d2
  clear d2 e2 hg D1 hR
  obtain ⟨W1, XR, FR, XM, FM, hR, _⟩ := id P1
  obtain ⟨_, q0, q1, q2, q3, q4, q5, q6⟩ := XM
  have g1 := FM 1
  clear FM q0 q2 q3 q4 q5 q6
  go_wp2_with fail
  have P2 := P1.set1 (n1 : Int)
  generalize wx1.setCell ⟨w.heap.size + 1, 1, none⟩ (.int .i64 (n1 : Int)) = wx2 at *
  clear P1 W1 hR q1 g1 XR FR
  rw [rounds_succ]
  have hR := P2.2.2.2.2.2.1
  go_wp2_with fail
  refine (K.out _ a2 _ hR rfl ha2).mono ?_
  rintro e w' ⟨he, rfl⟩
  rcases hg : gv 6 0 0 (l.drop a2) with _ | ⟨n2, j2⟩
  · rw [gvR_none hg] at he
    subst he
    obtain ⟨W2, XR, FR, _, _, _, _⟩ := id P2
    obtain ⟨_, p0, p1, p2, p3, p4, p5, p6⟩ := XR
    have f0 := FR 0
    have f1 := FR 1
    have f2 := FR 2
    have f3 := FR 3
    have f4 := FR 4
    have f5 := FR 5
    have f6 := FR 6
    have hf := dec_fail (decR_none (dec_up (dec_succ_none D2.out hg) 3))
    have HV := hide hf.1
    have HE := hide hf.2
    clear hf hg
    go_wp2_with fail
    refine bodyPost_ret (v := .tuple #[mZ, .int .i64 8]) (by simp [results, Try.results90, go_sem, p0, p1, p2, p3, p4, p5, p6]) rfl ⟨by rw [HV.out, HE.out], ?_⟩
    exact below7 W2 (Nat.le_refl _) _ _ _ _ _ _ _
  rw [gvR_some hg] at he
  have d3 := dec_succ_some D2.out hg
  obtain ⟨a3, e3⟩ : ∃ a : Nat, a = a2 + j2 := ⟨_, rfl⟩
  rw [← e3] at d3 he
  subst he
  have ha3 := dec_six d3 HL.out
  have D3 := hide d3
  clear d3 e3 hg D2 hR
  obtain ⟨W2, XR, FR, XM, FM, hR, _⟩ := id P2
  obtain ⟨_, q0, q1, q2, q3, q4, q5, q6⟩ := XM
  have g2 := FM 2
  clear FM q0 q1 q3 q4 q5 q6
  go_wp2_with fail
  have P3 := P2.set2 (n2 : Int)
  generalize wx2.setCell ⟨w.heap.size + 1, 2, none⟩ (.int .i64 (n2 : Int)) = wx3 at *
  clear P2 W2 hR q2 g2 XR FR
  rw [rounds_succ]
  have hR := P3.2.2.2.2.2.1
  go_wp2_with fail
  refine (K.out _ a3 _ hR rfl ha3).mono ?_
  rintro e w' ⟨he, rfl⟩
  rcases hg : gv 6 0 0 (l.drop a3) with _ | ⟨n3, j3⟩
  · rw [gvR_none hg] at he
    subst he
    obtain ⟨W3, XR, FR, _, _, _, _⟩ := id P3
    obtain ⟨_, p0, p1, p2, p3, p4, p5, p6⟩ := XR
    have f0 := FR 0
    have f1 := FR 1
    have f2 := FR 2
    have f3 := FR 3
    have f4 := FR 4
    have f5 := FR 5
    have f6 := FR 6
    have hf := dec_fail (decR_none (dec_up (dec_succ_none D3.out hg) 2))
    have HV := hide hf.1
    have HE := hide hf.2
    clear hf hg
    go_wp2_with fail
    refine bodyPost_ret (v := .tuple #[mZ, .int .i64 8]) (by simp [results, Try.results90, go_sem, p0, p1, p2, p3, p4, p5, p6]) rfl ⟨by rw [HV.out, HE.out], ?_⟩
    exact below7 W3 (Nat.le_refl _) _ _ _ _ _ _ _
  rw [gvR_some hg] at he
  have d4 := dec_succ_some D3.out hg
  obtain ⟨a4, e4⟩ : ∃ a : Nat, a = a3 + j3 := ⟨_, rfl⟩
  rw [← e4] at d4 he
  subst he
  have ha4 := dec_six d4 HL.out
  have D4 := hide d4
  clear d4 e4 hg D3 hR
  obtain ⟨W3, XR, FR, XM, FM, hR, _⟩ := id P3
  obtain ⟨_, q0, q1, q2, q3, q4, q5, q6⟩ := XM
  have g3 := FM 3
  clear FM q0 q1 q2 q4 q5 q6
  go_wp2_with fail
  have P4 := P3.set3 (n3 : Int)
  generalize wx3.setCell ⟨w.heap.size + 1, 3, none⟩ (.int .i64 (n3 : Int)) = wx4 at *
  clear P3 W3 hR q3 g3 XR FR
  rw [rounds_succ]
  have hR := P4.2.2.2.2.2.1
  go_wp2_with fail
  refine (K.out _ a4 _ hR rfl ha4).mono ?_
  rintro e w' ⟨he, rfl⟩
  rcases hg : gv 6 0 0 (l.drop a4) with _ | ⟨n4, j4⟩
  · rw [gvR_none hg] at he
    subst he
    obtain ⟨W4, XR, FR, _, _, _, _⟩ := id P4
    obtain ⟨_, p0, p1, p2, p3, p4, p5, p6⟩ := XR
    have f0 := FR 0
    have f1 := FR 1
    have f2 := FR 2
    have f3 := FR 3
    have f4 := FR 4
    have f5 := FR 5
    have f6 := FR 6
    have hf := dec_fail (decR_none (dec_up (dec_succ_none D4.out hg) 1))
    have HV := hide hf.1
    have HE := hide hf.2
    clear hf hg
    go_wp2_with fail
    refine bodyPost_ret (v := .tuple #[mZ, .int .i64 8]) (by simp [results, Try.results90, go_sem, p0, p1, p2, p3, p4, p5, p6]) rfl ⟨by rw [HV.out, HE.out], ?_⟩
    exact below7 W4 (Nat.le_refl _) _ _ _ _ _ _ _
  rw [gvR_some hg] at he
  have d5 := dec_succ_some D4.out hg
  obtain ⟨a5, e5⟩ : ∃ a : Nat, a = a4 + j4 := ⟨_, rfl⟩
  rw [← e5] at d5 he
  subst he
  have ha5 := dec_six d5 HL.out
  have D5 := hide d5
  clear d5 e5 hg D4 hR
  obtain ⟨W4, XR, FR, XM, FM, hR, _⟩ := id P4
  obtain ⟨_, q0, q1, q2, q3, q4, q5, q6⟩ := XM
  have g4 := FM 4
  clear FM q0 q1 q2 q3 q5 q6
  go_wp2_with fail
  have P5 := P4.set4 (n4 : Int)
  generalize wx4.setCell ⟨w.heap.size + 1, 4, none⟩ (.int .i64 (n4 : Int)) = wx5 at *
  clear P4 W4 hR q4 g4 XR FR
  rw [rounds_succ]
  have hR := P5.2.2.2.2.2.1
  go_wp2_with fail
  refine (K.out _ a5 _ hR rfl ha5).mono ?_
  rintro e w' ⟨he, rfl⟩
  rcases hg : gv 6 0 0 (l.drop a5) with _ | ⟨n5, j5⟩
  · rw [gvR_none hg] at he
    subst he
    obtain ⟨W5, XR, FR, _, _, _, _⟩ := id P5
    obtain ⟨_, p0, p1, p2, p3, p4, p5, p6⟩ := XR
    have f0 := FR 0
    have f1 := FR 1
    have f2 := FR 2
    have f3 := FR 3
    have f4 := FR 4
    have f5 := FR 5
    have f6 := FR 6
    have hf := dec_fail (decR_none (dec_up (dec_succ_none D5.out hg) 0))
    have HV := hide hf.1
    have HE := hide hf.2
    clear hf hg
    go_wp2_with fail
    refine bodyPost_ret (v := .tuple #[mZ, .int .i64 8]) (by simp [results, Try.results90, go_sem, p0, p1, p2, p3, p4, p5, p6]) rfl ⟨by rw [HV.out, HE.out], ?_⟩
    exact below7 W5 (Nat.le_refl _) _ _ _ _ _ _ _
  rw [gvR_some hg] at he
  have d6 := dec_succ_some D5.out hg
  obtain ⟨a6, e6⟩ : ∃ a : Nat, a = a5 + j5 := ⟨_, rfl⟩
  rw [← e6] at d6 he
  subst he
  have ha6 := dec_six d6 HL.out
  have D6 := hide d6
  clear d6 e6 hg D5 hR
  obtain ⟨W5, XR, FR, XM, FM, hR, _⟩ := id P5
  obtain ⟨_, q0, q1, q2, q3, q4, q5, q6⟩ := XM
  have g5 := FM 5
  clear FM q0 q1 q2 q3 q4 q6
  go_wp2_with fail
  have P6 := P5.set5 (n5 : Int)
  generalize wx5.setCell ⟨w.heap.size + 1, 5, none⟩ (.int .i64 (n5 : Int)) = wx6 at *
  clear P5 W5 hR q5 g5 XR FR
  rw [rounds_succ]
  obtain ⟨W6, XR, FR, XM, FM, hR, _⟩ := id P6
  obtain ⟨_, p0, p1, p2, p3, p4, p5, p6⟩ := XR
  obtain ⟨_, q0, q1, q2, q3, q4, q5, q6⟩ := XM
  have f0 := FR 0
  have f1 := FR 1
  have f2 := FR 2
  have f3 := FR 3
  have f4 := FR 4
  have f5 := FR 5
  have f6 := FR 6
  have g0 := FM 0
  have g1 := FM 1
  have g2 := FM 2
  have g3 := FM 3
  have g4 := FM 4
  have g5 := FM 5
  have g6 := FM 6
  go_wp2_with fail
  refine (K2.out _ a6 hR ha6).mono ?_
  rintro e w' ⟨he, rfl⟩
  obtain ⟨s, nx, cc, hg⟩ := gtR_cases l a6 16
  rw [hg] at he
  by_cases h1 : cc = 0
  · by_cases h2 : nx = (l.length : Int)
    · have hp := dec_pass (x0 := n0) (x1 := n1) (x2 := n2) (x3 := n3) (x4 := n4) (x5 := n5) (decR_good D6.out hg h1 h2)
      have h2b : (nx != (n : Int)) = false := by rw [h2, HL.out]; simp
      subst h1
      subst he
      clear hg h2
      have P7 := P6.set6 (bstr s)
      by_cases hz : mvE (n0 : Int) (n1 : Int) (n2 : Int) (n3 : Int) (n4 : Int) (n5 : Int) s.length = 0
      · rw [if_pos hz] at hp
        have HV := hide hp.1
        have HE := hide hp.2
        have HZ := hide hz
        clear hp hz
        go_upto_region 15 with fail
        generalize wx6.setCell ⟨w.heap.size + 1, 6, none⟩ (.string (bstr s)) = wx7 at *
        clear p0 p1 p2 p3 p4 p5 p6 q0 q1 q2 q3 q4 q5 q6 f0 f1 f2 f3 f4 f5 f6 g0 g1 g2 g3 g4 g5 g6 FR FM
        obtain ⟨W7, XR, FR, XM, FM, _, _⟩ := id P7
        obtain ⟨_, q0, q1, q2, q3, q4, q5, q6⟩ := id XM
        go_wp2_with fail
        refine (mval_any _ _ _ _ _ _ _ _).mono ?_
        rintro e w7 ⟨he, hb⟩
        rw [bstr_size, HZ.out] at he
        subst he
        have WA := W7.trans (hb.mono W7.size)
        have FA := FR.below hb XR.1
        have XA := XR.below hb XR.1
        have Y := XM.below hb XM.1
        clear hb q0 q1 q2 q3 q4 q5 q6
        obtain ⟨_, p0, p1, p2, p3, p4, p5, p6⟩ := XA
        obtain ⟨_, q0, q1, q2, q3, q4, q5, q6⟩ := Y
        have f0 := FA 0
        have f1 := FA 1
        have f2 := FA 2
        have f3 := FA 3
        have f4 := FA 4
        have f5 := FA 5
        have f6 := FA 6
        go_wp2_with fail
        refine bodyPost_ret (v := .tuple #[.agg #[.int .i64 (n0 : Int), .int .i64 (n1 : Int), .int .i64 (n2 : Int), .int .i64 (n3 : Int), .int .i64 (n4 : Int), .int .i64 (n5 : Int), .string (bstr s)], .int .i64 0]) (by simp [results, Try.results90, go_sem, p0, p1, p2, p3, p4, p5, p6]) rfl ⟨by rw [HV.out, HE.out, HZ.out], ?_⟩
        exact below7 WA (Nat.le_refl _) _ _ _ _ _ _ _
      · rw [if_neg hz] at hp
        have HV := hide hp.1
        have HE := hide hp.2
        generalize hx : mvE (n0 : Int) (n1 : Int) (n2 : Int) (n3 : Int) (n4 : Int) (n5 : Int) s.length = z at *
        have HZ := hide hx
        have hzb : (z != 0) = true := by rw [bne_iff_ne]; exact hz
        clear hp hz hx
        go_upto_region 15 with fail
        generalize wx6.setCell ⟨w.heap.size + 1, 6, none⟩ (.string (bstr s)) = wx7 at *
        clear p0 p1 p2 p3 p4 p5 p6 q0 q1 q2 q3 q4 q5 q6 f0 f1 f2 f3 f4 f5 f6 g0 g1 g2 g3 g4 g5 g6 FR FM
        obtain ⟨W7, XR, FR, XM, FM, _, _⟩ := id P7
        obtain ⟨_, q0, q1, q2, q3, q4, q5, q6⟩ := id XM
        go_wp2_with fail
        refine (mval_any _ _ _ _ _ _ _ _).mono ?_
        rintro e w7 ⟨he, hb⟩
        rw [bstr_size, HZ.out] at he
        subst he
        have WA := W7.trans (hb.mono W7.size)
        have FA := FR.below hb XR.1
        have XA := XR.below hb XR.1
        have Y := XM.below hb XM.1
        clear hb q0 q1 q2 q3 q4 q5 q6
        obtain ⟨_, p0, p1, p2, p3, p4, p5, p6⟩ := XA
        obtain ⟨_, q0, q1, q2, q3, q4, q5, q6⟩ := Y
        have f0 := FA 0
        have f1 := FA 1
        have f2 := FA 2
        have f3 := FA 3
        have f4 := FA 4
        have f5 := FA 5
        have f6 := FA 6
        go_wp2_with fail
        refine bodyPost_ret (v := .tuple #[mZ, .int .i64 z]) (by simp [results, Try.results90, go_sem, p0, p1, p2, p3, p4, p5, p6]) rfl ⟨by rw [HV.out, HE.out], ?_⟩
        exact below7 WA (Nat.le_refl _) _ _ _ _ _ _ _
    · have hf := dec_fail (decR_bad D6.out hg (fun x => h2 x.2))
      have HV := hide hf.1
      have HE := hide hf.2
      have h2b : (nx != (n : Int)) = true := by rw [bne_iff_ne]; rw [HL.out] at h2; exact h2
      subst h1
      subst he
      clear hf hg h2
      go_wp2_with fail
      refine bodyPost_ret (v := .tuple #[mZ, .int .i64 8]) (by simp [results, Try.results90, go_sem, p0, p1, p2, p3, p4, p5, p6]) rfl ⟨by rw [HV.out, HE.out], ?_⟩
      exact below7 W6 (Nat.le_refl _) _ _ _ _ _ _ _
  · have hf := dec_fail (decR_bad D6.out hg (fun x => h1 x.1))
    have HV := hide hf.1
    have HE := hide hf.2
    have h1b : (cc != 0) = true := by rw [bne_iff_ne]; exact h1
    subst he
    clear hf hg h1
    go_wp2_with fail
    refine bodyPost_ret (v := .tuple #[mZ, .int .i64 8]) (by simp [results, Try.results90, go_sem, p0, p1, p2, p3, p4, p5, p6]) rfl ⟨by rw [HV.out, HE.out], ?_⟩
    exact below7 W6 (Nat.le_refl _) _ _ _ _ _ _ _
end Go.Proofs.Ytaoiekcoiooghaa
